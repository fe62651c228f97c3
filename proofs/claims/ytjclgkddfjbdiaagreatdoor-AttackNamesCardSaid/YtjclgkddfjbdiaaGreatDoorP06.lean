/-
  Packed out of the texts: AN1, AN2, A24, A21, A25, A26, AN3, AN4, A29, A32, AN5, A17, A31, Y0, Names.
-/
import Derived.Test.YtjclgkddfjbdiaaGreatDoorP05
import Derived.Sort.Walk0
import Derived.Deep.DeepAppendRoom
import Derived.Maps.RangeRun
set_option maxRecDepth 100000
set_option linter.unusedSimpArgs false
set_option linter.unusedVariables false
namespace Go.Proofs.YtjclgkddfjbdiaaGreatDoor.A
open Go.RowKit
def core0 : List Abs := [int 0, int 0, int 1, .v (.string ⟨#[97]⟩), int 5, int 0, .v (.string ⟨#[48]⟩)]
def set0 : List Abs := [int 1, .v (.slice none 0 0), int 1]
def hon0 : Abs := .sl 1 [[int 0], [int 1], [int 2], [int 3]]
def plL (x : Int) (h : Abs) : List Abs := [int 1, .v (.slice none 0 0), int 1, int 4, int 0, int 0, int 1, .v (.string ⟨#[97]⟩), int 5, int 0, .v (.string ⟨#[48]⟩), .v (.int .u64 x), h]
def stepL (k w : Int) (c : List Abs) (o : Abs) : List Abs := [int k, int w, int 0, int 0] ++ c ++ [o, .v (.int .u32 0), int 0, int 0, .v (.slice none 0 0), .v (.slice none 0 0)]
section
variable {p : Nat}
theorem draw0_s  : Spec Tryz.prog 29 [ptr p, int 3] [.blk p 87 (plL 7 hon0)] (fun _ : Unit => [.blk p 87 (plL 7575888327 hon0)]) (fun _ => int 0) := by
 refine t_ Tryz.func29 rfl Tryz.ntmps29 rfl fun G w =>c_<|a_<|q_ 1 rfl<|g_<|b_<|c_<|ah_ [] (.q 0 (.q 1 (.q 2 (.q 3 (.q 4 (.q 5 (.q 6 (.q 7 (.q 8 (.q 9 (.q 10 (.q 11 .nil)))))))))))) (by kernel_rfl) (by kernel_rfl) ?_
 refine qs_ 3 rfl<|hx_ fun hx9 =>j_ rfl (i_ (C := .v (.int .u64 7)) (h_ tabOk rfl rfl l0_ List.not_mem_nil rfl) rfl) hx9 rfl rfl<|qs_ 3 rfl<|j_ rfl (i_ (C := .v (.int .u64 7)) (h_ tabOk rfl rfl l0_ List.not_mem_nil rfl) rfl) hx9 rfl rfl<|j_ rfl (i_ (C := .v (.int .u64 57344)) (bp_ rfl rfl (by omega)) (congrArg (fun r => Abs.v (.int .u64 r)) (by kernel_rfl))) hx9 rfl rfl ?_
 refine j_ rfl (i_ (C := .v (.int .u64 57351)) (aC_ (r := 57351) rfl rfl (fun w => by kernel_rfl) rfl) rfl) hx9 rfl rfl ?_
 refine qs_ 2 rfl<|C_<|ao_ rfl (p_ (L' := plL 57351 hon0) tabOk rfl rfl rfl u0_ rfl (lb_ (by rfl)) rfl (by rfl)) rfl rfl ?_
 rintro _ _ ⟨rfl, rfl⟩
 refine b_<|c_<|ah_ [] (.q 0 (.q 1 (.q 2 (.q 3 (.q 4 (.q 5 (.q 6 (.q 7 (.q 8 (.q 9 (.q 10 (.q 11 .nil)))))))))))) (by kernel_rfl) (by kernel_rfl) ?_
 refine qs_ 3 rfl<|hx_ fun hx9 =>j_ rfl (i_ (C := .v (.int .u64 57351)) (h_ tabOk rfl rfl l0_ List.not_mem_nil rfl) rfl) hx9 rfl rfl<|qs_ 3 rfl<|j_ rfl (i_ (C := .v (.int .u64 57351)) (h_ tabOk rfl rfl l0_ List.not_mem_nil rfl) rfl) hx9 rfl rfl<|j_ rfl (i_ (C := .v (.int .u64 448)) (bo_ rfl rfl (by omega)) (congrArg (fun r => Abs.v (.int .u64 r)) (by kernel_rfl))) hx9 rfl rfl ?_
 refine j_ rfl (i_ (C := .v (.int .u64 57799)) (aC_ (r := 57799) rfl rfl (fun w => by kernel_rfl) rfl) rfl) hx9 rfl rfl ?_
 refine qs_ 2 rfl<|C_<|ao_ rfl (p_ (L' := plL 57799 hon0) tabOk rfl rfl rfl u0_ rfl (lb_ (by rfl)) rfl (by rfl)) rfl rfl ?_
 rintro _ _ ⟨rfl, rfl⟩
 refine b_<|c_<|ah_ [] (.q 0 (.q 1 (.q 2 (.q 3 (.q 4 (.q 5 (.q 6 (.q 7 (.q 8 (.q 9 (.q 10 (.q 11 .nil)))))))))))) (by kernel_rfl) (by kernel_rfl) ?_
 refine qs_ 3 rfl<|hx_ fun hx9 =>j_ rfl (i_ (C := .v (.int .u64 57799)) (h_ tabOk rfl rfl l0_ List.not_mem_nil rfl) rfl) hx9 rfl rfl<|qs_ 3 rfl<|j_ rfl (i_ (C := .v (.int .u64 57799)) (h_ tabOk rfl rfl l0_ List.not_mem_nil rfl) rfl) hx9 rfl rfl<|j_ rfl (i_ (C := .v (.int .u64 7575830528)) (bp_ rfl rfl (by omega)) (congrArg (fun r => Abs.v (.int .u64 r)) (by kernel_rfl))) hx9 rfl rfl ?_
 refine j_ rfl (i_ (C := .v (.int .u64 7575888327)) (aC_ (r := 7575888327) rfl rfl (fun w => by kernel_rfl) rfl) rfl) hx9 rfl rfl ?_
 refine qs_ 2 rfl<|C_<|ao_ rfl (p_ (L' := plL 7575888327 hon0) tabOk rfl rfl rfl u0_ rfl (lb_ (by rfl)) rfl (by rfl)) rfl rfl ?_
 rintro _ _ ⟨rfl, rfl⟩
 refine b_<|c_<|a_<|q_ 3 rfl<|d_ (i_ (C := .v (.int .u64 7575888327)) (h_ tabOk rfl rfl l0_ List.not_mem_nil rfl) rfl) rfl rfl<|d_ (i_ (C := .v (.int .u64 0)) (bo_ rfl rfl (by omega)) (congrArg (fun r => Abs.v (.int .u64 r)) (by kernel_rfl))) rfl rfl ?_
 refine d_ (aa_ rfl Tryz.underlying3 (by kernel_rfl) (by simp only [InR, lo, hi]; omega)) rfl rfl ?_
 refine q_ 1 rfl<|d_ (i_ (C := int 3) (ct_ rfl rfl) (congrArg int (by decide))) rfl rfl ?_
 refine d_ (i_ (C := int 0) (b1_ rfl rfl (by omega)) (congrArg int (by decide))) rfl rfl ?_
 exact q_ 1 rfl<|g_<|b_<|o_<|f_ (rs := [.tmp 4]) rfl (RV.tmp rfl RV.nil) (()) sr_<|rfl
theorem draw1_s  : Spec Tryz.prog 29 [ptr p, int 12] [.blk p 87 (plL 7575888327 hon0)] (fun _ : Unit => [.blk p 87 (plL 8070950887952051652 hon0)]) (fun _ => int 9) := by
 refine t_ Tryz.func29 rfl Tryz.ntmps29 rfl fun G w =>c_<|a_<|q_ 1 rfl<|g_<|b_<|c_<|ah_ [] (.q 0 (.q 1 (.q 2 (.q 3 (.q 4 (.q 5 (.q 6 (.q 7 (.q 8 (.q 9 (.q 10 (.q 11 .nil)))))))))))) (by kernel_rfl) (by kernel_rfl) ?_
 refine qs_ 3 rfl<|hx_ fun hx9 =>j_ rfl (i_ (C := .v (.int .u64 7575888327)) (h_ tabOk rfl rfl l0_ List.not_mem_nil rfl) rfl) hx9 rfl rfl<|qs_ 3 rfl<|j_ rfl (i_ (C := .v (.int .u64 7575888327)) (h_ tabOk rfl rfl l0_ List.not_mem_nil rfl) rfl) hx9 rfl rfl<|j_ rfl (i_ (C := .v (.int .u64 62061677174784)) (bp_ rfl rfl (by omega)) (congrArg (fun r => Abs.v (.int .u64 r)) (by kernel_rfl))) hx9 rfl rfl ?_
 refine j_ rfl (i_ (C := .v (.int .u64 62054219514311)) (aC_ (r := 62054219514311) rfl rfl (fun w => by kernel_rfl) rfl) rfl) hx9 rfl rfl ?_
 refine qs_ 2 rfl<|C_<|ao_ rfl (p_ (L' := plL 62054219514311 hon0) tabOk rfl rfl rfl u0_ rfl (lb_ (by rfl)) rfl (by rfl)) rfl rfl ?_
 rintro _ _ ⟨rfl, rfl⟩
 refine b_<|c_<|ah_ [] (.q 0 (.q 1 (.q 2 (.q 3 (.q 4 (.q 5 (.q 6 (.q 7 (.q 8 (.q 9 (.q 10 (.q 11 .nil)))))))))))) (by kernel_rfl) (by kernel_rfl) ?_
 refine qs_ 3 rfl<|hx_ fun hx9 =>j_ rfl (i_ (C := .v (.int .u64 62054219514311)) (h_ tabOk rfl rfl l0_ List.not_mem_nil rfl) rfl) hx9 rfl rfl<|qs_ 3 rfl<|j_ rfl (i_ (C := .v (.int .u64 62054219514311)) (h_ tabOk rfl rfl l0_ List.not_mem_nil rfl) rfl) hx9 rfl rfl<|j_ rfl (i_ (C := .v (.int .u64 484798589955)) (bo_ rfl rfl (by omega)) (congrArg (fun r => Abs.v (.int .u64 r)) (by kernel_rfl))) hx9 rfl rfl ?_
 refine j_ rfl (i_ (C := .v (.int .u64 61576938352068)) (aC_ (r := 61576938352068) rfl rfl (fun w => by kernel_rfl) rfl) rfl) hx9 rfl rfl ?_
 refine qs_ 2 rfl<|C_<|ao_ rfl (p_ (L' := plL 61576938352068 hon0) tabOk rfl rfl rfl u0_ rfl (lb_ (by rfl)) rfl (by rfl)) rfl rfl ?_
 rintro _ _ ⟨rfl, rfl⟩
 refine b_<|c_<|ah_ [] (.q 0 (.q 1 (.q 2 (.q 3 (.q 4 (.q 5 (.q 6 (.q 7 (.q 8 (.q 9 (.q 10 (.q 11 .nil)))))))))))) (by kernel_rfl) (by kernel_rfl) ?_
 refine qs_ 3 rfl<|hx_ fun hx9 =>j_ rfl (i_ (C := .v (.int .u64 61576938352068)) (h_ tabOk rfl rfl l0_ List.not_mem_nil rfl) rfl) hx9 rfl rfl<|qs_ 3 rfl<|j_ rfl (i_ (C := .v (.int .u64 61576938352068)) (h_ tabOk rfl rfl l0_ List.not_mem_nil rfl) rfl) hx9 rfl rfl<|j_ rfl (i_ (C := .v (.int .u64 8071012463682256896)) (bp_ rfl rfl (by omega)) (congrArg (fun r => Abs.v (.int .u64 r)) (by kernel_rfl))) hx9 rfl rfl ?_
 refine j_ rfl (i_ (C := .v (.int .u64 8070950887952051652)) (aC_ (r := 8070950887952051652) rfl rfl (fun w => by kernel_rfl) rfl) rfl) hx9 rfl rfl ?_
 refine qs_ 2 rfl<|C_<|ao_ rfl (p_ (L' := plL 8070950887952051652 hon0) tabOk rfl rfl rfl u0_ rfl (lb_ (by rfl)) rfl (by rfl)) rfl rfl ?_
 rintro _ _ ⟨rfl, rfl⟩
 refine b_<|c_<|a_<|q_ 3 rfl<|d_ (i_ (C := .v (.int .u64 8070950887952051652)) (h_ tabOk rfl rfl l0_ List.not_mem_nil rfl) rfl) rfl rfl<|d_ (i_ (C := .v (.int .u64 939582345)) (bo_ rfl rfl (by omega)) (congrArg (fun r => Abs.v (.int .u64 r)) (by kernel_rfl))) rfl rfl ?_
 refine d_ (aa_ rfl Tryz.underlying3 (by kernel_rfl) (by simp only [InR, lo, hi]; omega)) rfl rfl ?_
 refine q_ 1 rfl<|d_ (i_ (C := int 12) (ct_ rfl rfl) (congrArg int (by decide))) rfl rfl ?_
 refine d_ (i_ (C := int 9) (b1_ rfl rfl (by omega)) (congrArg int (by decide))) rfl rfl ?_
 exact q_ 1 rfl<|g_<|b_<|o_<|f_ (rs := [.tmp 4]) rfl (RV.tmp rfl RV.nil) (()) sr_<|rfl
theorem draw2_s  : Spec Tryz.prog 29 [ptr p, int 3] [.blk p 87 (plL 8070950887952051652 hon0)] (fun _ : Unit => [.blk p 87 (plL 13931920357059763743 hon0)]) (fun _ => int 0) := by
 refine t_ Tryz.func29 rfl Tryz.ntmps29 rfl fun G w =>c_<|a_<|q_ 1 rfl<|g_<|b_<|c_<|ah_ [] (.q 0 (.q 1 (.q 2 (.q 3 (.q 4 (.q 5 (.q 6 (.q 7 (.q 8 (.q 9 (.q 10 (.q 11 .nil)))))))))))) (by kernel_rfl) (by kernel_rfl) ?_
 refine qs_ 3 rfl<|hx_ fun hx9 =>j_ rfl (i_ (C := .v (.int .u64 8070950887952051652)) (h_ tabOk rfl rfl l0_ List.not_mem_nil rfl) rfl) hx9 rfl rfl<|qs_ 3 rfl<|j_ rfl (i_ (C := .v (.int .u64 8070950887952051652)) (h_ tabOk rfl rfl l0_ List.not_mem_nil rfl) rfl) hx9 rfl rfl<|j_ rfl (i_ (C := .v (.int .u64 4098913928174141440)) (bp_ rfl rfl (by omega)) (congrArg (fun r => Abs.v (.int .u64 r)) (by kernel_rfl))) hx9 rfl rfl ?_
 refine j_ rfl (i_ (C := .v (.int .u64 5252186253695774148)) (aC_ (r := 5252186253695774148) rfl rfl (fun w => by kernel_rfl) rfl) rfl) hx9 rfl rfl ?_
 refine qs_ 2 rfl<|C_<|ao_ rfl (p_ (L' := plL 5252186253695774148 hon0) tabOk rfl rfl rfl u0_ rfl (lb_ (by rfl)) rfl (by rfl)) rfl rfl ?_
 rintro _ _ ⟨rfl, rfl⟩
 refine b_<|c_<|ah_ [] (.q 0 (.q 1 (.q 2 (.q 3 (.q 4 (.q 5 (.q 6 (.q 7 (.q 8 (.q 9 (.q 10 (.q 11 .nil)))))))))))) (by kernel_rfl) (by kernel_rfl) ?_
 refine qs_ 3 rfl<|hx_ fun hx9 =>j_ rfl (i_ (C := .v (.int .u64 5252186253695774148)) (h_ tabOk rfl rfl l0_ List.not_mem_nil rfl) rfl) hx9 rfl rfl<|qs_ 3 rfl<|j_ rfl (i_ (C := .v (.int .u64 5252186253695774148)) (h_ tabOk rfl rfl l0_ List.not_mem_nil rfl) rfl) hx9 rfl rfl<|j_ rfl (i_ (C := .v (.int .u64 41032705106998235)) (bo_ rfl rfl (by omega)) (congrArg (fun r => Abs.v (.int .u64 r)) (by kernel_rfl))) hx9 rfl rfl ?_
 refine j_ rfl (i_ (C := .v (.int .u64 5220310325582798367)) (aC_ (r := 5220310325582798367) rfl rfl (fun w => by kernel_rfl) rfl) rfl) hx9 rfl rfl ?_
 refine qs_ 2 rfl<|C_<|ao_ rfl (p_ (L' := plL 5220310325582798367 hon0) tabOk rfl rfl rfl u0_ rfl (lb_ (by rfl)) rfl (by rfl)) rfl rfl ?_
 rintro _ _ ⟨rfl, rfl⟩
 refine b_<|c_<|ah_ [] (.q 0 (.q 1 (.q 2 (.q 3 (.q 4 (.q 5 (.q 6 (.q 7 (.q 8 (.q 9 (.q 10 (.q 11 .nil)))))))))))) (by kernel_rfl) (by kernel_rfl) ?_
 refine qs_ 3 rfl<|hx_ fun hx9 =>j_ rfl (i_ (C := .v (.int .u64 5220310325582798367)) (h_ tabOk rfl rfl l0_ List.not_mem_nil rfl) rfl) hx9 rfl rfl<|qs_ 3 rfl<|j_ rfl (i_ (C := .v (.int .u64 5220310325582798367)) (h_ tabOk rfl rfl l0_ List.not_mem_nil rfl) rfl) hx9 rfl rfl<|j_ rfl (i_ (C := .v (.int .u64 9883812753859018752)) (bp_ rfl rfl (by omega)) (congrArg (fun r => Abs.v (.int .u64 r)) (by kernel_rfl))) hx9 rfl rfl ?_
 refine j_ rfl (i_ (C := .v (.int .u64 13931920357059763743)) (aC_ (r := 13931920357059763743) rfl rfl (fun w => by kernel_rfl) rfl) rfl) hx9 rfl rfl ?_
 refine qs_ 2 rfl<|C_<|ao_ rfl (p_ (L' := plL 13931920357059763743 hon0) tabOk rfl rfl rfl u0_ rfl (lb_ (by rfl)) rfl (by rfl)) rfl rfl ?_
 rintro _ _ ⟨rfl, rfl⟩
 refine b_<|c_<|a_<|q_ 3 rfl<|d_ (i_ (C := .v (.int .u64 13931920357059763743)) (h_ tabOk rfl rfl l0_ List.not_mem_nil rfl) rfl) rfl rfl<|d_ (i_ (C := .v (.int .u64 1621888992)) (bo_ rfl rfl (by omega)) (congrArg (fun r => Abs.v (.int .u64 r)) (by kernel_rfl))) rfl rfl ?_
 refine d_ (aa_ rfl Tryz.underlying3 (by kernel_rfl) (by simp only [InR, lo, hi]; omega)) rfl rfl ?_
 refine q_ 1 rfl<|d_ (i_ (C := int 3) (ct_ rfl rfl) (congrArg int (by decide))) rfl rfl ?_
 refine d_ (i_ (C := int 0) (b1_ rfl rfl (by omega)) (congrArg int (by decide))) rfl rfl ?_
 exact q_ 1 rfl<|g_<|b_<|o_<|f_ (rs := [.tmp 4]) rfl (RV.tmp rfl RV.nil) (()) sr_<|rfl
theorem draw3_s  : Spec Tryz.prog 29 [ptr p, int 12] [.blk p 87 (plL 13931920357059763743 hon0)] (fun _ : Unit => [.blk p 87 (plL 8698583309276795107 hon0)]) (fun _ => int 7) := by
 refine t_ Tryz.func29 rfl Tryz.ntmps29 rfl fun G w =>c_<|a_<|q_ 1 rfl<|g_<|b_<|c_<|ah_ [] (.q 0 (.q 1 (.q 2 (.q 3 (.q 4 (.q 5 (.q 6 (.q 7 (.q 8 (.q 9 (.q 10 (.q 11 .nil)))))))))))) (by kernel_rfl) (by kernel_rfl) ?_
 refine qs_ 3 rfl<|hx_ fun hx9 =>j_ rfl (i_ (C := .v (.int .u64 13931920357059763743)) (h_ tabOk rfl rfl l0_ List.not_mem_nil rfl) rfl) hx9 rfl rfl<|qs_ 3 rfl<|j_ rfl (i_ (C := .v (.int .u64 13931920357059763743)) (h_ tabOk rfl rfl l0_ List.not_mem_nil rfl) rfl) hx9 rfl rfl<|j_ rfl (i_ (C := .v (.int .u64 285980992588734464)) (bp_ rfl rfl (by omega)) (congrArg (fun r => Abs.v (.int .u64 r)) (by kernel_rfl))) hx9 rfl rfl ?_
 refine j_ rfl (i_ (C := .v (.int .u64 14024242167037787679)) (aC_ (r := 14024242167037787679) rfl rfl (fun w => by kernel_rfl) rfl) rfl) hx9 rfl rfl ?_
 refine qs_ 2 rfl<|C_<|ao_ rfl (p_ (L' := plL 14024242167037787679 hon0) tabOk rfl rfl rfl u0_ rfl (lb_ (by rfl)) rfl (by rfl)) rfl rfl ?_
 rintro _ _ ⟨rfl, rfl⟩
 refine b_<|c_<|ah_ [] (.q 0 (.q 1 (.q 2 (.q 3 (.q 4 (.q 5 (.q 6 (.q 7 (.q 8 (.q 9 (.q 10 (.q 11 .nil)))))))))))) (by kernel_rfl) (by kernel_rfl) ?_
 refine qs_ 3 rfl<|hx_ fun hx9 =>j_ rfl (i_ (C := .v (.int .u64 14024242167037787679)) (h_ tabOk rfl rfl l0_ List.not_mem_nil rfl) rfl) hx9 rfl rfl<|qs_ 3 rfl<|j_ rfl (i_ (C := .v (.int .u64 14024242167037787679)) (h_ tabOk rfl rfl l0_ List.not_mem_nil rfl) rfl) hx9 rfl rfl<|j_ rfl (i_ (C := .v (.int .u64 109564391929982716)) (bo_ rfl rfl (by omega)) (congrArg (fun r => Abs.v (.int .u64 r)) (by kernel_rfl))) hx9 rfl rfl ?_
 refine j_ rfl (i_ (C := .v (.int .u64 14061748531137597667)) (aC_ (r := 14061748531137597667) rfl rfl (fun w => by kernel_rfl) rfl) rfl) hx9 rfl rfl ?_
 refine qs_ 2 rfl<|C_<|ao_ rfl (p_ (L' := plL 14061748531137597667 hon0) tabOk rfl rfl rfl u0_ rfl (lb_ (by rfl)) rfl (by rfl)) rfl rfl ?_
 rintro _ _ ⟨rfl, rfl⟩
 refine b_<|c_<|ah_ [] (.q 0 (.q 1 (.q 2 (.q 3 (.q 4 (.q 5 (.q 6 (.q 7 (.q 8 (.q 9 (.q 10 (.q 11 .nil)))))))))))) (by kernel_rfl) (by kernel_rfl) ?_
 refine qs_ 3 rfl<|hx_ fun hx9 =>j_ rfl (i_ (C := .v (.int .u64 14061748531137597667)) (h_ tabOk rfl rfl l0_ List.not_mem_nil rfl) rfl) hx9 rfl rfl<|qs_ 3 rfl<|j_ rfl (i_ (C := .v (.int .u64 14061748531137597667)) (h_ tabOk rfl rfl l0_ List.not_mem_nil rfl) rfl) hx9 rfl rfl<|j_ rfl (i_ (C := .v (.int .u64 13516092651061248000)) (bp_ rfl rfl (by omega)) (congrArg (fun r => Abs.v (.int .u64 r)) (by kernel_rfl))) hx9 rfl rfl ?_
 refine j_ rfl (i_ (C := .v (.int .u64 8698583309276795107)) (aC_ (r := 8698583309276795107) rfl rfl (fun w => by kernel_rfl) rfl) rfl) hx9 rfl rfl ?_
 refine qs_ 2 rfl<|C_<|ao_ rfl (p_ (L' := plL 8698583309276795107 hon0) tabOk rfl rfl rfl u0_ rfl (lb_ (by rfl)) rfl (by rfl)) rfl rfl ?_
 rintro _ _ ⟨rfl, rfl⟩
 refine b_<|c_<|a_<|q_ 3 rfl<|d_ (i_ (C := .v (.int .u64 8698583309276795107)) (h_ tabOk rfl rfl l0_ List.not_mem_nil rfl) rfl) rfl rfl<|d_ (i_ (C := .v (.int .u64 1012648375)) (bo_ rfl rfl (by omega)) (congrArg (fun r => Abs.v (.int .u64 r)) (by kernel_rfl))) rfl rfl ?_
 refine d_ (aa_ rfl Tryz.underlying3 (by kernel_rfl) (by simp only [InR, lo, hi]; omega)) rfl rfl ?_
 refine q_ 1 rfl<|d_ (i_ (C := int 12) (ct_ rfl rfl) (congrArg int (by decide))) rfl rfl ?_
 refine d_ (i_ (C := int 7) (b1_ rfl rfl (by omega)) (congrArg int (by decide))) rfl rfl ?_
 exact q_ 1 rfl<|g_<|b_<|o_<|f_ (rs := [.tmp 4]) rfl (RV.tmp rfl RV.nil) (()) sr_<|rfl
end
def coreZ : List Abs := [int 0, int 0, int 0, .v (.string ⟨#[]⟩), int 0, int 0, .v (.string ⟨#[]⟩)]
def deliver0 : List Abs := stepL 3 0 coreZ (.sl 1 [])
theorem hn_ : Casts [.agg (stepL 3 0 coreZ (.v (.slice none 0 0)))] [.agg deliver0] := Casts.cons (hB_ (Casts.keep (Casts.keep (Casts.keep (Casts.keep (Casts.keep (Casts.keep (Casts.keep (Casts.keep (Casts.keep (Casts.keep (Casts.keep (Casts.nils Casts.refl))))))))))))) Casts.refl
section
variable {p : Nat} {x : Int} {xs : List Int}
theorem indexN_s  : Spec Tryz.prog 39 [.v (.slice none 0 0), int x] [] (fun _ : Unit => []) (fun _ => int (-1)) := by
 refine t_ Tryz.func39 rfl Tryz.ntmps39 rfl fun G w =>c_<|a_<|q_ 1 rfl<|g_<|b_<|c_<|c_<|a_<|q_ 1 rfl<|d_ (af_ (m := 0) rfl Tryz.underlying22) rfl rfl<|q_ 1 rfl<|g_<|b_<|w_<|S_ (ι := Nat) (fun z => []) (fun z => [(7, int (0 : Nat)), (8, int (z : Nat))]) (fun z => z = 0) (fun z => 0) (0) (rfl) (by exact ⟨rfl, rfl, trivial⟩) sn_ ?_
 intro z hz
 refine c_<|a_<|q_ 1 rfl<|g_<|b_<|c_<|n_ rfl (by intro hc9; exfalso; omega) ?_
 intro hc9
 exact O_<|k_ nofun<|k_ nofun<|N_<|b_<|c_<|a_<|q_ 1 rfl<|g_<|b_<|o_<|f_ (rs := [.tmp 4]) rfl (RV.tmp rfl RV.nil) (()) sn_<|rfl
theorem cG_  : Spec Tryz.prog 25 [.v (.slice none 0 0), int x] [] (fun _ : Unit => []) (fun _ => boo false) := by
 refine t_ Tryz.func25 rfl Tryz.ntmps25 rfl fun G w =>c_<|a_<|q_ 1 rfl<|g_<|b_<|c_<|a_<|q_ 2 rfl<|m_ (indexN_s) Casts.refl (by kernel_rfl) rfl rfl rfl ?_
 exact ap_<|fun _=>q_ 2 rfl<|g_<|b_<|o_<|f_ (rs := [.tmp 4]) rfl (RV.tmp rfl RV.nil) (()) sn_<|rfl
theorem plain1_s  : Spec Tryz.prog 30 [ptr p] [.blk p 87 (plL 7575888327 hon0)] (fun _ : Unit => [.blk p 87 (plL 8070950887952051652 hon0)]) (fun _ => .agg deliver0) := by
 refine t_ Tryz.func30 rfl Tryz.ntmps30 rfl fun G w =>c_<|a_<|eb_ (F_ tabOk rfl) rfl rfl fun b2=>?_
 refine g_<|b_<|c_<|c_<|a_<|q_ 1 rfl<|m_ (draw1_s) Casts.refl (by kernel_rfl) rfl rfl rfl ?_
 refine M_ [_] (β := []) rfl (by intro x hx; simp only [List.mem_cons, List.not_mem_nil, or_false] at hx; rcases hx with rfl; rfl) ?_
 intro _
 refine g_<|b_<|w_<|c_<|a_<|q_ 2 rfl<|g_<|b_<|n_ rfl (by intro hc5; exfalso; omega) ?_
 intro hc5
 refine c_<|c_<|a_<|q_ 2 rfl<|g_<|b_<|n_ rfl (by intro hc12; exfalso; omega) ?_
 intro hc12
 refine a_<|q_ 2 rfl<|g_<|b_<|n_ rfl (by intro hc12; exfalso; omega) ?_
 intro hc12
 refine s_<|A_<|b_<|c_<|a_<|d_ (i_ (C := .agg (stepL 3 0 coreZ (.v (.slice none 0 0)))) (u_ tabOk rfl rfl rfl rfl) rfl) rfl rfl<|e_ (p_ (L' := stepL 3 0 coreZ (.v (.slice none 0 0))) tabOk rfl rfl rfl u0_ rfl (Nat.le_of_ble_eq_true rfl) rfl (by exact x_ rfl)) rfl rfl ?_
 refine g_<|b_<|o_<|fC_ (rs := [.cell 2 44]) rfl (RV.cell rfl (RV.cellA tabOk rfl rfl l0_ (by rfl)) RV.nil) (hn_) (()) (sk_ sr_) ?_
 exact rfl
theorem plain3_s  : Spec Tryz.prog 30 [ptr p] [.blk p 87 (plL 13931920357059763743 hon0)] (fun _ : Unit => [.blk p 87 (plL 8698583309276795107 hon0)]) (fun _ => .agg deliver0) := by
 refine t_ Tryz.func30 rfl Tryz.ntmps30 rfl fun G w =>c_<|a_<|eb_ (F_ tabOk rfl) rfl rfl fun b2=>?_
 refine g_<|b_<|c_<|c_<|a_<|q_ 1 rfl<|m_ (draw3_s) Casts.refl (by kernel_rfl) rfl rfl rfl ?_
 refine M_ [_] (β := []) rfl (by intro x hx; simp only [List.mem_cons, List.not_mem_nil, or_false] at hx; rcases hx with rfl; rfl) ?_
 intro _
 refine g_<|b_<|w_<|c_<|a_<|q_ 2 rfl<|g_<|b_<|n_ rfl (by intro hc5; exfalso; omega) ?_
 intro hc5
 refine c_<|c_<|a_<|q_ 2 rfl<|g_<|b_<|n_ rfl (by intro hc12; exfalso; omega) ?_
 intro hc12
 refine a_<|q_ 2 rfl<|g_<|b_<|n_ rfl (by intro hc12; exfalso; omega) ?_
 intro hc12
 refine s_<|A_<|b_<|c_<|a_<|d_ (i_ (C := .agg (stepL 3 0 coreZ (.v (.slice none 0 0)))) (u_ tabOk rfl rfl rfl rfl) rfl) rfl rfl<|e_ (p_ (L' := stepL 3 0 coreZ (.v (.slice none 0 0))) tabOk rfl rfl rfl u0_ rfl (Nat.le_of_ble_eq_true rfl) rfl (by exact x_ rfl)) rfl rfl ?_
 refine g_<|b_<|o_<|fC_ (rs := [.cell 2 44]) rfl (RV.cell rfl (RV.cellA tabOk rfl rfl l0_ (by rfl)) RV.nil) (hn_) (()) (sk_ sr_) ?_
 exact rfl
theorem step0_s  : Spec Tryz.prog 18 [ptr p, int 1] [.blk p 87 (plL 7 hon0)] (fun _ : Unit => [.blk p 87 (plL 8070950887952051652 hon0)]) (fun _ => .agg deliver0) := by
 refine t_ Tryz.func18 rfl Tryz.ntmps18 rfl fun G w =>c_<|a_<|eb_ (F_ tabOk rfl) rfl rfl fun b4=>?_
 refine g_<|b_<|c_<|a_<|q_ 3 rfl<|D_ (t := 8) rfl (by intro hc8; exfalso; omega) ?_
 intro hc8
 refine q_ 4 rfl<|g_<|b_<|c_<|c_<|a_<|q_ 12 rfl<|m_ (draw0_s) Casts.refl (by kernel_rfl) rfl rfl rfl ?_
 refine M_ [_] (β := []) rfl (by intro x hx; simp only [List.mem_cons, List.not_mem_nil, or_false] at hx; rcases hx with rfl; rfl) ?_
 intro _
 refine q_ 2 rfl<|g_<|b_<|n_ rfl ?_ (by intro hc26; exfalso; omega)
 intro hc26
 refine c_<|a_<|q_ 1 rfl<|m_ (plain1_s) Casts.refl (by kernel_rfl) rfl rfl rfl ?_
 refine M_ [_] (β := []) rfl (by intro x hx; simp only [List.mem_cons, List.not_mem_nil, or_false] at hx; rcases hx with rfl; rfl) ?_
 intro _
 refine e_ (p_ (L' := deliver0) tabOk rfl rfl rfl u0_ rfl (Nat.le_of_ble_eq_true rfl) rfl (by exact x_ rfl)) rfl rfl ?_
 refine g_<|b_<|o_<|k_ nofun<|f_ (rs := [.cell 4 44]) rfl (RV.cell rfl (RV.cellA tabOk rfl rfl l0_ (by rfl)) RV.nil) (()) (sk_ sr_) ?_
 exact rfl
theorem step2_s  : Spec Tryz.prog 18 [ptr p, int 1] [.blk p 87 (plL 8070950887952051652 hon0)] (fun _ : Unit => [.blk p 87 (plL 8698583309276795107 hon0)]) (fun _ => .agg deliver0) := by
 refine t_ Tryz.func18 rfl Tryz.ntmps18 rfl fun G w =>c_<|a_<|eb_ (F_ tabOk rfl) rfl rfl fun b4=>?_
 refine g_<|b_<|c_<|a_<|q_ 3 rfl<|D_ (t := 8) rfl (by intro hc8; exfalso; omega) ?_
 intro hc8
 refine q_ 4 rfl<|g_<|b_<|c_<|c_<|a_<|q_ 12 rfl<|m_ (draw2_s) Casts.refl (by kernel_rfl) rfl rfl rfl ?_
 refine M_ [_] (β := []) rfl (by intro x hx; simp only [List.mem_cons, List.not_mem_nil, or_false] at hx; rcases hx with rfl; rfl) ?_
 intro _
 refine q_ 2 rfl<|g_<|b_<|n_ rfl ?_ (by intro hc26; exfalso; omega)
 intro hc26
 refine c_<|a_<|q_ 1 rfl<|m_ (plain3_s) Casts.refl (by kernel_rfl) rfl rfl rfl ?_
 refine M_ [_] (β := []) rfl (by intro x hx; simp only [List.mem_cons, List.not_mem_nil, or_false] at hx; rcases hx with rfl; rfl) ?_
 intro _
 refine e_ (p_ (L' := deliver0) tabOk rfl rfl rfl u0_ rfl (Nat.le_of_ble_eq_true rfl) rfl (by exact x_ rfl)) rfl rfl ?_
 refine g_<|b_<|o_<|k_ nofun<|f_ (rs := [.cell 4 44]) rfl (RV.cell rfl (RV.cellA tabOk rfl rfl l0_ (by rfl)) RV.nil) (()) (sk_ sr_) ?_
 exact rfl
end
section
variable {P : Program} {n : Nat} {W : Wd} {σ τ : Blks} {l : Slots} {X : List Nat} {x y : Operand} {d : Option Nat} {ty t e : TypeId} {pos : String} {aft : Array Edge} {g : Option (Nat × Bool)} {tab : List (Nat × TI)} {k k' : IntKind} {r : Int} {m : Nat} {z : Value}
theorem gX_ (hT : TabOk P tab) {j : TI} (hu : P.underlying t = some (.slice e)) (hj : ti tab e = some j) (hsz : Nat.beq j.size 1 = true) (hz : j.zero = [z]) (hx : look l x = some (.v (.int k r))) (hy : look l y = some (.v (.int k' r))) (hr : r = (m : Nat)) (hm : m ≤ maxLen) (hby : P.bytesOf e * m ≤ 281474976710656) :
    Eff P n W σ l [] ⟨d, .makeSlice t x y, ty, pos, aft, g⟩ fun u τ => ∃ v, u = .v v ∧ τ = own e 1 v (List.replicate m [.v z]) :: σ := fun a w hs => by
  subst hr
  have hsz := Nat.eq_of_beq_eq_true hsz
  obtain ⟨I, hI, hIs, zv, hzv, hzc⟩ := (hT e j hj).info
  have hbi := fj_ hI
  obtain ⟨w', hrun, h1, h2⟩ := run_make_full (P := P) w 0 t e I zv 1 hu hI hzv (by rw [hIs, hsz]) k k' m (by rw [← hbi]; exact hby) hm (Nat.zero_le _)
  have hxx : Ext [] w w' := fT_ h2 (by simp)
  have hcs : (madeCells zv.cells (m * 1)).toList = List.replicate m z := by
    rw [hzc, hz, Nat.mul_one]
    apply List.ext_getElem
    · simp [size_madeCells]
    · intro i h3 h4
      simp [madeCells, Nat.mod_one]
  rw [hcs] at h1
  have hnew := hs.mem.new (y := own e 1 (.slice (some ⟨w.heap.size, 0, none⟩) m m) (List.replicate m [.v z])) hxx aM_ (by simp [It.mids, ownPc, Value.ownBlock]) rfl fun hc => ⟨List.replicate m z, by rw [List.length_replicate]; exact h1, fI_ m⟩
  refine ⟨_, w', _, _, ⟨_, rfl, rfl⟩, hxx, rfl, hnew.1, hnew.2, .inl ?_⟩
  simp [execOp, hs.plain hx, hs.plain hy, hrun, Result.andThen]
end
def factsPc (l : List (Value × Abs)) : Pc where
  ids := []
  p := fun K w => ∀ x ∈ l, rep K w x.2 x.1
  carry := fun _ _ _ _ hc _ h x hx => aY_ hc _ _ (h x hx)
  lt := fun _ _ _ k hk => by cases hk
abbrev facts (l : List (Value × Abs)) : It := .pc (factsPc l)
/-! ### Maps whose values are trees: the map's own values, and what they are -/
section
variable {α β : Type} [DecidableEq α] {tm tm' : List (α × (Value × β))} {a c : α} {u : Value} {x : β}
def rawM (tm : List (α × (Value × β))) : List (α × Value) := tm.map fun e => (e.1, e.2.1)
def facM (enc : β → Abs) (tm : List (α × (Value × β))) : List (Value × Abs) := tm.map fun e => (e.2.1, enc e.2.2)
theorem dM_ : ∀ (tm : List (α × (Value × β))), aget (rawM tm) a = (aget tm a).map (·.1)
  | [] => rfl
  | e :: tm => by
    have h := dM_ tm
    unfold rawM aget at h ⊢
    rw [List.map_cons, List.find?_cons, List.find?_cons]
    by_cases he : e.1 = a
    · simp [he]
    · simpa [he] using h
omit [DecidableEq α] in
theorem d6_ (tm : List (α × (Value × β))) : (rawM tm).map (·.1) = tm.map (·.1) := by
  unfold rawM
  rw [List.map_map]
  rfl
theorem rawM_put (tm : List (α × (Value × β))) (a : α) (u : Value) (x : β) : rawM (aput tm a (u, x)) = aput (rawM tm) a u := by
  have hg := dM_ tm (a := a)
  unfold aput
  rw [hg, Option.isSome_map]
  split
  · unfold rawM
    rw [List.map_map, List.map_map]
    refine List.map_congr_left fun e _ => ?_
    show ((if e.1 = a then (a, (u, x)) else e).1, (if e.1 = a then (a, (u, x)) else e).2.1) = if e.1 = a then (a, u) else (e.1, e.2.1)
    split <;> rfl
  · unfold rawM
    rw [List.map_append]
    rfl
theorem facM_put {enc : β → Abs} (tm : List (α × (Value × β))) (a : α) (u : Value) (x : β) : ∀ y ∈ facM enc (aput tm a (u, x)), y ∈ (u, enc x) :: facM enc tm := by
  intro y hy
  obtain ⟨e, he, rfl⟩ := List.mem_map.1 hy
  unfold aput at he
  split at he
  · obtain ⟨d, hd, rfl⟩ := List.mem_map.1 he
    split
    · exact List.mem_cons_self
    · exact List.mem_cons_of_mem _ (List.mem_map.2 ⟨d, hd, rfl⟩)
  · rcases List.mem_append.1 he with he | he
    · exact List.mem_cons_of_mem _ (List.mem_map.2 ⟨e, he, rfl⟩)
    · rw [List.mem_singleton.1 he]; exact List.mem_cons_self
theorem jQ_ {γ : Type} : ∀ {m : List (α × γ)} {v : γ}, aget m a = some v → (a, v) ∈ m
  | [], v, h => by simp [aget] at h
  | e :: m, v, h => by
    unfold aget at h
    rw [List.find?_cons] at h
    by_cases he : e.1 = a
    · simp [he] at h
      obtain ⟨e1, e2⟩ := e
      dsimp only at h he
      subst h he
      exact List.mem_cons_self
    · simp only [he, decide_false] at h
      exact List.mem_cons_of_mem _ (jQ_ (by unfold aget; exact h))
end
section
variable {σ σ1 : Blks} {ι : Type} {τ' : ι → Blks} {K : Blks → ι → Prop}
theorem After.sub (φ : Blks) (hσ : σ.Perm (σ1 ++ φ)) (hr : ∀ x ∈ σ1, x.rids = []) (hk : ∀ z, ∃ ν : Blks, ν.Perm (τ' z ++ φ) ∧ K ν z) : After σ σ1 τ' K :=
  ⟨φ, ⟨by rw [← L_]; exact cd_ hσ.symm, fun x hx => .inl ⟨hσ.mem_iff.2 (List.mem_append_left _ hx), hr x hx⟩, fun x hx => hσ.mem_iff.2 (List.mem_append_right _ hx)⟩, hk⟩
end
def itPc : It → Pc
  | .blk b t cs => blkP b t cs
  | .pc c => c
  | _ => bigP []
def bigI (xs : Blks) : Pc := bigP (xs.map itPc)
def isMut : It → Bool
  | .blk .. => true
  | .pc _ => true
  | _ => false
section
variable {xs ys : Blks} {x : It} {K : List Nat} {w : World}
theorem itPc_ids (h : isMut x = true) : (itPc x).ids = x.mids := by
  cases x with
  | blk b t cs => simp [itPc, It.mids, blkP]
  | pc c => rfl
  | _ => cases h
theorem itPc_p (h : isMut x = true) : (itPc x).p K w ↔ x.holds K w := by
  cases x with
  | blk b t cs => exact Iff.rfl
  | pc c => exact Iff.rfl
  | _ => cases h
theorem mut_rids (h : isMut x = true) : x.rids = [] := by
  cases x with
  | blk b t cs => rfl
  | pc c => rfl
  | _ => cases h
theorem hG_ : ∀ {xs : Blks}, xs.all isMut = true → (bigI xs).ids = mids xs
  | [], _ => rfl
  | x :: xs, h => by
    rw [List.all_cons, Bool.and_eq_true] at h
    have h1 := hG_ h.2
    unfold bigI bigP at h1 ⊢
    simp only [List.map_cons, List.flatMap_cons]
    rw [itPc_ids h.1, ad_]
    exact congrArg (x.mids ++ ·) h1
theorem bigI_p (h : xs.all isMut = true) : (bigI xs).p K w ↔ ∀ x ∈ xs, x.holds K w := by
  rw [List.all_eq_true] at h
  show (∀ c ∈ xs.map itPc, c.p K w) ↔ _
  constructor
  · intro h1 x hx
    exact (itPc_p (h x hx)).1 (h1 _ (List.mem_map.2 ⟨x, hx, rfl⟩))
  · intro h1 c hc
    obtain ⟨x, hx, rfl⟩ := List.mem_map.1 hc
    exact (itPc_p (h x hx)).2 (h1 x hx)
theorem hp_ (h : xs.all isMut = true) : mids [.pc (bigI xs)] = mids xs := by
  rw [ad_]
  show (bigI xs).ids ++ mids [] = _
  rw [hG_ h]
  simp [mids]
theorem ar_ (h : xs.all isMut = true) : ∀ x ∈ xs, x.rids = [] := fun x hx => mut_rids (List.all_eq_true.1 h x hx)
theorem Re.bigIn (h : xs.all isMut = true) : Re xs [.pc (bigI xs)] := ⟨⟨[], by rw [hp_ h, List.append_nil]⟩, by simp [It.rids], fun K w hx y hy => by
  rw [List.mem_singleton.1 hy]
  exact (bigI_p h).2 hx⟩
theorem Re.bigOut (h : xs.all isMut = true) : Re [.pc (bigI xs)] xs := ⟨⟨[], by rw [hp_ h, List.append_nil]⟩, ar_ h, fun K w hx y hy => (bigI_p h).1 (hx _ List.mem_cons_self) y hy⟩
theorem Spec.big {P : Program} {f : FuncId} {args : List Abs} {σ : Blks} {ι : Type} {τ : ι → Blks} {res : ι → Abs} (hs : Spec P f args σ τ res) (h1 : σ.all isMut = true) (h2 : ∀ z, (τ z).all isMut = true) : Spec P f args [.pc (bigI σ)] (fun z => [.pc (bigI (τ z))]) res :=
  Spec.reg (φ := []) hs (ar_ h1) (by rw [List.append_nil]; exact Re.bigOut h1) fun z => by rw [List.append_nil]; exact Re.bigIn (h2 z)
theorem Spec.mapI {P : Program} {f : FuncId} {args : List Abs} {σ : Blks} {ι κ : Type} {τ : ι → Blks} {τ2 : κ → Blks} {res : ι → Abs} {res2 : κ → Abs} (g : ι → κ) (h : Spec P f args σ τ res) (h1 : ∀ z, τ z = τ2 (g z)) (h2 : ∀ z, res z = res2 (g z)) : Spec P f args σ τ2 res2 := fun G w vals hm hv =>
  (h G w vals hm hv).mono fun e w' ⟨z, r, he, h3, h4, h5⟩ => ⟨g z, r, he, by rw [← h1]; exact h3, by rw [← h1]; exact h4, by rw [← h1, ← h2]; exact h5⟩
end
/-! ### Maps as lists of pairs -/
/-! ### The rows -/
section
variable {α β : Type} [DecidableEq α] {tm : List (α × (Value × β))} {a : α} {v : Value} {x z0 : β} {f : β → List (List Abs)} {T : TypeId} {s : Nat}
def rowD (tm : List (α × (Value × β))) (a : α) (z0 : β) : β := ((aget tm a).map (·.2)).getD z0
variable {P : Program} {n : Nat} {W : Wd} {σ : Blks} {l : Slots} {ops : Array Oper} {rest : List Oper} {Q : Exit → Act → World → Prop} {ix : Plan} {X : List Nat}
omit [DecidableEq α] in
theorem hN_ {c : Code} (k : (mids σ).Nodup → SC P c (St n W σ l) Q) : SC P c (St n W σ l) Q := fun a w h => k h.mem.nodup a w h
end
def rng (k : Nat) : List (List Abs) := (List.range k).map fun i : Nat => [int (i : Nat)]
theorem rng_succ (k : Nat) : rng k ++ [[int (k : Nat)]] = rng (k + 1) := by unfold rng; rw [List.range_succ, List.map_append]; rfl
theorem gx_ (k : Nat) : (rng k).length = k := by unfold rng; rw [List.length_map, List.length_range]
def ask0 : List Abs := stepL 1 4 core0 hon0
theorem ask_succ (k : Nat) : List.replicate k ask0 ++ [ask0] = List.replicate (k + 1) ask0 := by rw [List.replicate_succ']
section
variable {p : Nat} {x : Int}
theorem cloneI_s {xs : List (List Abs)} (h1 : ∀ c ∈ xs, ones c = true) (hn : xs.length ≤ 1000000) : Spec Tryz.prog 28 [.sl 1 xs] [] (fun _ : Unit => []) (fun _ => .sl 1 xs) := by
 refine t_ Tryz.func28 rfl Tryz.ntmps28 rfl fun G w =>c_<|a_<|q_ 1 rfl<|g_<|b_<|c_<|c_<|a_<|q_ 1 rfl<|bH_ Tryz.underlying22 rfl rfl rfl<|fun b hb=>g_<|b_<|ay_ rfl ?_ ?_
 ·intro hc4
  have hnil : xs = [] := hb hc4
  subst hnil
  refine c_<|a_<|q_ 1 rfl<|g_<|b_<|o_<|k_ nofun<|ci_ (rs := [.tmp 2]) rfl (RV.tmp rfl RV.nil) (Casts.nils (s := 1) Casts.refl) () sn_ (by simp [It.rids]) rfl
 intro hc4
 refine s_<|b_<|c_<|a_<|eb_ (as_ tabOk Tryz.underlying22 rfl rfl rfl rfl rfl rfl rfl) rfl rfl fun r5=>?_
 refine q_ 1 rfl<|eb_ (K_ (zs := xs) tabOk [] rfl Tryz.underlying22 rfl rfl rfl rfl rfl rfl h1 (by unfold maxLen; simp only [List.length_nil]; omega) (by rw [show Tryz.prog.bytesOf 3 = 8 by kernel_rfl]; simp only [List.length_nil]; omega)) rfl rfl fun r7=>?_
 exact q_ 1 rfl<|g_<|b_<|o_<|a8_ [] (t := 2) rfl rfl<|f_ (rs := [.tmp 2]) rfl (RV.tmp rfl RV.nil) (()) sn_<|rfl
theorem jd_  : Spec Tryz.prog 16 [.agg set0, .agg core0, .v (.int .u64 7)] [] (fun p : Nat => [.blk p 87 (plL 7 hon0)]) (fun p => ptr p) := by
 refine t_ Tryz.func16 rfl Tryz.ntmps16 rfl fun G w =>c_<|a_<|eb_ (z_ (cs := set0) rfl) rfl rfl fun b3=>?_
 refine eb_ (z_ (cs := core0) rfl) rfl rfl fun b4=>?_
 refine q_ 1 rfl<|g_<|b_<|c_<|a_<|d_ (i_ (C := .agg set0) (al_ tabOk rfl rfl rfl l1_ List.not_mem_nil (Nat.le_of_ble_eq_true rfl)) rfl) rfl rfl<|q_ 1 rfl<|d_ (h_ tabOk rfl rfl l1_ List.not_mem_nil rfl) rfl rfl<|d_ (c8_ rfl rfl (by simp only [InR, lo, hi]; omega)) rfl rfl ?_
 refine d_ (E_ rfl rfl (by simp only [InR, lo, hi]; omega)) rfl rfl ?_
 refine d_ (i_ (C := .agg core0) (al_ tabOk rfl rfl rfl l0_ List.not_mem_nil (Nat.le_of_ble_eq_true rfl)) rfl) rfl rfl<|q_ 1 rfl<|d_ (i_ (C := .v (.int .u64 7)) (aC_ (r := 7) rfl rfl (fun w => by kernel_rfl) rfl) rfl) rfl rfl ?_
 refine d_ (i_ (C := .agg (plL 7 (.v (.slice none 0 0)))) (u_ tabOk rfl rfl rfl rfl) rfl) rfl rfl<|eb_ (z_ (cs := plL 7 (.v (.slice none 0 0))) rfl) rfl rfl fun b18=>?_
 refine q_ 1 rfl<|g_<|b_<|c_<|c_<|a_<|q_ 3 rfl<|d_ (h_ tabOk rfl rfl l0_ List.not_mem_nil rfl) rfl rfl<|q_ 1 rfl<|g_<|b_<|w_<|aO_ 3 1<|S_ (ι := Nat × Value) (fun z => [own 3 1 z.2 (rng z.1), .blk b18 87 (plL 7 (.v z.2)), .blk b3 24 set0]) (fun z => [(3, ptr b3), (7, ptr b18), (22, int 4), (23, int (z.1 : Nat))]) (fun z => z.1 ≤ 4) (fun z => 4 - z.1) (0, .slice none 0 0) (Nat.zero_le _) (by exact ⟨rfl, rfl, rfl, rfl, trivial⟩) (sc_ (sc_ (sk_ sr_))) ?_
 intro z hz
 refine c_<|a_<|q_ 1 rfl<|g_<|b_<|c_<|n_ rfl ?_ ?_
 rotate_left
 ·intro hc24
  have hz4 : z.1 = 4 := by omega
  refine O_<|k_ nofun<|k_ nofun<|N_<|b_<|c_<|bR_ [] 12 rfl u0_ rfl ?_
  rw [hz4]
  exact a_<|q_ 2 rfl<|g_<|b_<|o_<|f_ (rs := [.tmp 6]) rfl (RV.tmp rfl RV.nil) (b18) (sc_ sn_)<|rfl
 intro hc24
 refine s_<|b_<|c_<|w_<|c_<|a_<|q_ 2 rfl<|g_<|b_<|c_<|a_<|q_ 1 rfl<|d_ (i_ (C := .v (.slice none 0 0)) (h_ tabOk rfl rfl l2_ List.not_mem_nil rfl) rfl) rfl rfl<|q_ 1 rfl<|m_ (cG_ (x := ((z.1 : Nat) : Int))) Casts.refl (by kernel_rfl) rfl rfl rfl ?_
 refine ap_<|fun _=>d_ (cr_ rfl) rfl rfl<|g_<|b_<|ab_ rfl<|a_<|q_ 4 rfl<|d_ (i_ (C := .v z.2) (h_ tabOk rfl rfl l1_ List.not_mem_nil rfl) rfl) rfl rfl<|q_ 1 rfl<|e_ (ac_ tabOk Tryz.underlying22 rfl rfl rfl rfl rfl rfl rfl) rfl rfl<|eb_ (K_ (zs := rng (z.1 + 1)) tabOk [] (rng_succ _) Tryz.underlying22 rfl rfl rfl rfl rfl rfl (by intro c hc; rw [List.mem_singleton] at hc; subst hc; rfl) (by unfold maxLen; simp only [gx_, List.length_cons, List.length_nil]; omega) (by rw [show Tryz.prog.bytesOf 3 = 8 by kernel_rfl]; simp only [gx_, List.length_cons, List.length_nil]; omega)) rfl rfl fun r38=>?_
 refine q_ 2 rfl<|e_ (az_ (L' := plL 7 (.v r38)) tabOk rfl rfl rfl rfl i0_ u1_ rfl rfl) rfl rfl<|g_<|A_<|b_<|a_<|d_ (E_ rfl rfl (by simp only [InR, lo, hi]; omega)) rfl rfl ?_
 refine q_ 1 rfl<|g_<|J_ (z.1 + 1, r38) (by omega) ((by dsimp only; omega)) (by exact ⟨rfl, rfl, rfl, rfl, trivial⟩) sr_
set_option maxHeartbeats 1000000 in
theorem asks_s  : Spec Tryz.prog 17 [ptr p] [.blk p 87 (plL 7 hon0)] (fun v : Value => [own 44 17 v (List.replicate 1 ask0), .blk p 87 (plL 7 hon0)]) (fun v => .v v) := by
 refine t_ Tryz.func17 rfl Tryz.ntmps17 rfl fun G w =>c_<|a_<|q_ 1 rfl<|g_<|b_<|c_<|a_<|q_ 1 rfl<|g_<|b_<|c_<|c_<|a_<|q_ 3 rfl<|d_ (i_ (C := int (4 + ((0 : Nat) : Int))) (h_ tabOk rfl rfl l0_ List.not_mem_nil rfl) rfl) rfl rfl<|q_ 1 rfl<|g_<|b_<|w_<|aO_ 44 17<|S_ (ι := Nat × Value) (fun z => [own 44 17 z.2 (List.replicate z.1 ask0), .blk p 87 (plL 7 hon0)]) (fun z => [(0, ptr p), (3, .v z.2), (4, int (4 + ((z.1 : Nat) : Int)))]) (fun z => z.1 ≤ 1) (fun z => 1 - z.1) (0, .slice none 0 0) (Nat.zero_le _) (by exact ⟨rfl, rfl, rfl, trivial⟩) sr_ ?_
 intro z hz
 refine c_<|c_<|T_ [] (.q 0 (.q 1 (.q 2 (.q 3 (.q 4 (.q 5 (.q 6 (.q 7 (.q 8 (.q 9 (.q 10 (.q 11 .nil)))))))))))) (by kernel_rfl) (by kernel_rfl) ?_
 refine qs_ 4 rfl<|hx_ fun hx9 =>j_ rfl (i_ (C := int 4) (h_ tabOk rfl rfl l1_ List.not_mem_nil rfl) rfl) hx9 rfl rfl<|qs_ 4 rfl<|j_ rfl (i_ (C := int 1) (h_ tabOk rfl rfl l1_ List.not_mem_nil rfl) rfl) hx9 rfl rfl<|j_ rfl (E_ rfl rfl (by simp only [InR, lo, hi]; omega)) (by simp) rfl rfl ?_
 refine qs_ 1 rfl<|C_<|b_<|n_ rfl ?_ ?_
 rotate_left
 ·intro hc20
  have hz1 : z.1 = 1 := by omega
  refine O_<|k_ nofun<|k_ nofun<|N_<|b_<|c_<|a_<|q_ 2 rfl<|g_<|b_<|o_<|f_ (rs := [.tmp 2]) rfl (RV.tmp rfl RV.nil) (z.2) (by rw [hz1]; repeat (first | exact List.nil_sublist _ | exact List.Sublist.refl _ | apply List.Sublist.cons_cons | apply List.Sublist.cons)) ?_
  exact rfl
 intro hc20
 have hz0 : z.1 = 0 := by omega
 refine s_<|b_<|c_<|w_<|c_<|a_<|q_ 4 rfl<|d_ (i_ (C := .v (.slice none 0 0)) (h_ tabOk rfl rfl l1_ List.not_mem_nil rfl) rfl) rfl rfl<|q_ 1 rfl<|m_ (cG_ (x := 4 + ((z.1 : Nat) : Int))) Casts.refl (by kernel_rfl) rfl rfl rfl ?_
 refine ap_<|fun _=>d_ (cr_ rfl) rfl rfl<|g_<|b_<|ab_ rfl<|hN_ fun hnod => ?_
 have hbx : p ∉ mids [own 44 17 z.2 (List.replicate z.1 ask0)] ++ [] := by
  intro hm
  have h9 : (z.2.ownBlock.toList ++ [p]).Nodup := hnod
  exact (List.nodup_append.1 h9).2.2 p (by simpa [mids, It.mids, ownPc] using hm) p (by simp) rfl
 refine T_ (mids [own 44 17 z.2 (List.replicate z.1 ask0)] ++ []) (.q 0 (.q 1 (.q 2 (.q 3 (.q 4 (.q 5 (.q 6 (.q 7 (.q 8 (.q 9 (.e 10 (.q 11 (.e 12 (.e 13 (.q 14 .nil))))))))))))))) (by kernel_rfl) (by kernel_rfl) ?_
 refine hx_ fun hx9 =>qx_ 5 hx9 rfl<|j_ rfl (i_ (C := .agg core0) (al_ tabOk rfl rfl rfl l1_ hbx (Nat.le_of_ble_eq_true rfl)) rfl) hx9 rfl rfl<|qx_ 3 hx9 rfl<|j_ rfl (i_ (C := .sl 1 (rng 4)) (h_ tabOk rfl rfl l1_ hbx rfl) rfl) hx9 rfl rfl<|H_ rfl (cloneI_s (xs := rng 4) (by intro c hc; obtain ⟨i, _, rfl⟩ := List.mem_map.1 hc; rfl) (by decide)) (by simp [mids, It.mids]) Casts.refl (by kernel_rfl) rfl rfl rfl ?_
 refine ap_<|fun _=>hx_ fun hx9 =>j_ rfl (i_ (C := .agg ask0) (u_ tabOk rfl rfl rfl rfl) (by rw [hz0]; rfl)) hx9 rfl rfl ?_
 refine ex_ rfl (ac_ tabOk Tryz.underlying30 rfl rfl rfl (aS_ rfl) rfl rfl rfl) (by simp) rfl rfl ?_
 refine ch_ [own 44 17 z.2 (List.replicate z.1 ask0)] [] rfl (K_ (zs := List.replicate (z.1 + 1) ask0) tabOk [] (ask_succ _) Tryz.underlying30 rfl rfl rfl rfl rfl rfl (by intro c hc; rw [List.mem_singleton] at hc; subst hc; rfl) (by unfold maxLen; simp only [List.length_replicate, List.length_cons, List.length_nil]; omega) (by rw [show Tryz.prog.bytesOf 44 = 200 by kernel_rfl]; simp only [List.length_replicate, List.length_cons, List.length_nil]; omega)) rfl (by intro k hk; simp [mids, It.mids, ownPc] at hk ⊢; simp [hk]) rfl rfl ?_
 rintro _ _ ⟨r44, rfl, rfl⟩
 refine ⟨[own 44 17 r44 (List.replicate (z.1 + 1) ask0)], rfl, hx_ fun hx9 =>qx_ 1 hx9 rfl<|C_<|A_<|b_<|a_<|q_ 1 rfl<|d_ (i_ (C := int (4 + ((z.1 + 1 : Nat) : Int))) (E_ rfl rfl (by simp only [InR, lo, hi]; omega)) (congrArg int (by omega))) rfl rfl ?_⟩
 refine q_ 1 rfl<|g_<|J_ (z.1 + 1, r44) (by omega) ((by dsimp only; omega)) (by exact ⟨rfl, rfl, rfl, trivial⟩) sr_
end
theorem iN_ {f : Int} {m Z : List Abs} {place : Nat → Option (Nat × Nat)} (hm : m.length = 5) (hZ : Z.length = 6) (h0 : place 0 = some (0, 1)) (h1 : place 1 = some (1, 5)) : fillA place Z [(0, int f), (1, .agg m)] = some (int f :: m) := by
  match Z, hZ with
  | z0 :: Z, hZ =>
    have hZ2 : Z.length = 5 := by simpa using hZ
    have p1 : putL (z0 :: Z) 0 [int f] = int f :: Z := rfl
    have p2 : putL (int f :: Z) 1 m = int f :: m := by
      rw [bW_ _ _ _ (by simp), List.drop_eq_nil_of_le (by simp only [List.length_cons]; omega), List.append_nil]
      rfl
    simp only [fillA, h0, h1, cellsA, p1, p2, hm, hZ2, List.length_cons, List.length_nil]
    rfl
theorem fz_ {a : Abs} {m : List Abs} (h : a.one = true) (hm : ones m = true) : ones (a :: m) = true := by
  rw [bC_] at hm ⊢
  intro x hx
  rcases List.mem_cons.1 hx with rfl | hx
  · exact h
  · exact hm x hx
section
variable {c : Nat} {v : Value} {rows ps : List (List Abs)} {r0 : List Abs} {from_ : Int}
theorem a5_  : Spec Tryz.prog 24 [] [] (fun c : Nat => [.blk c 97 [.v (.slice none 0 0)], own 143 6 (.slice none 0 0) []]) (fun c => ptr c) := by
 refine t_ Tryz.func24 rfl Tryz.ntmps24 rfl fun G w =>c_<|a_<|q_ 1 rfl<|g_<|b_<|c_<|aO_ 143 6<|a_<|d_ (i_ (C := .agg [.v (.slice none 0 0)]) (u_ tabOk rfl rfl rfl rfl) rfl) rfl rfl<|eb_ (z_ (cs := [.v (.slice none 0 0)]) rfl) rfl rfl fun b2=>?_
 exact q_ 1 rfl<|g_<|b_<|o_<|f_ (rs := [.tmp 0]) rfl (RV.tmp rfl RV.nil) (b2) sr_<|rfl
theorem gI_  : Spec Tryz.prog 60 [ptr c] [.rd c 97 [.v v], .rdpc (ownPc 143 6 v rows)] (fun _ : Unit => []) (fun _ => int (rows.length : Nat)) := by
 refine t_ Tryz.func60 rfl Tryz.ntmps60 rfl fun G w =>c_<|a_<|q_ 1 rfl<|g_<|b_<|c_<|c_<|a_<|q_ 1 rfl<|d_ (ax_ rfl rfl (by kernel_rfl)) rfl rfl ?_
 exact g_<|b_<|I_ rfl<|s_<|b_<|c_<|a_<|q_ 3 rfl<|d_ (i_ (C := .v v) (h_ tabOk rfl rfl r0_ List.not_mem_nil rfl) rfl) rfl rfl<|d_ (cJ_ (m := rows.length) rfl (.inr i1_) Tryz.underlying95 rfl) rfl rfl<|q_ 1 rfl<|g_<|b_<|o_<|f_ (rs := [.tmp 2]) rfl (RV.tmp rfl RV.nil) (()) sn_<|rfl
set_option maxHeartbeats 1000000 in
theorem jx_ (hp : ∀ m ∈ ps, m.length = 5 ∧ ones m = true) (hl : rows.length + ps.length ≤ 16384) : Spec Tryz.prog 58 [ptr c, int from_, .sl 5 ps] [.blk c 97 [.v v], own 143 6 v rows] (fun v : Value => [.blk c 97 [.v v], own 143 6 v (rows ++ ps.map fun m => int from_ :: m)]) (fun _ => int (ps.length : Nat)) := by
 refine t_ Tryz.func58 rfl Tryz.ntmps58 rfl fun G w =>c_<|a_<|q_ 1 rfl<|g_<|b_<|c_<|c_<|a_<|q_ 1 rfl<|d_ (ax_ rfl rfl (by kernel_rfl)) rfl rfl ?_
 refine g_<|b_<|I_ rfl<|s_<|b_<|c_<|a_<|q_ 2 rfl<|d_ (P_ (m := ps.length) rfl Tryz.underlying116 rfl) rfl rfl<|q_ 3 rfl<|d_ (i_ (C := .v v) (h_ tabOk rfl rfl l0_ List.not_mem_nil rfl) rfl) rfl rfl<|d_ (aG_ (m := rows.length) rfl i1_ Tryz.underlying95 rfl) rfl rfl<|d_ (b0_ rfl rfl (by simp only [InR, lo, hi]; omega)) rfl rfl ?_
 refine d_ (i_ (C := int (ps.length : Nat)) (dO_ rfl rfl) (congrArg int (by omega))) rfl rfl ?_
 refine d_ (i_ (C := .sl 5 ps) (cI_ (q := ps.length) tabOk Tryz.underlying116 rfl rfl rfl rfl rfl (Nat.le_refl _)) (congrArg (Abs.sl 5) (List.take_length))) rfl rfl<|q_ 1 rfl<|g_<|b_<|c_<|c_<|a_<|q_ 1 rfl<|d_ (P_ (m := ps.length) rfl Tryz.underlying116 rfl) rfl rfl<|q_ 1 rfl<|g_<|b_<|w_<|b8_ [] (Re.perm (xs := [.blk c 97 [.v v], own 143 6 v rows]) (ys := [own 143 6 v rows, .blk c 97 [.v v]]) (List.Perm.swap _ _ _) (by intro x hx; simp only [List.mem_cons, List.not_mem_nil, or_false] at hx; rcases hx with rfl | rfl <;> rfl)) rfl ?_
 refine S_ (ι := Nat × Value) (fun z => [own 143 6 z.2 (rows ++ (ps.take z.1).map fun m => int from_ :: m), .blk c 97 [.v z.2]]) (fun z => [(0, ptr c), (1, int from_), (2, .sl 5 ps), (22, .sl 5 ps), (23, int (ps.length : Nat)), (24, int (z.1 : Nat))]) (fun z => z.1 ≤ ps.length) (fun z => ps.length - z.1) (0, v) (Nat.zero_le _) (by exact ⟨rfl, rfl, rfl, rfl, rfl, rfl, trivial⟩) (by dsimp only; rw [List.take_zero, List.map_nil, List.append_nil]; repeat (first | exact List.nil_sublist _ | exact List.Sublist.refl _ | apply List.Sublist.cons_cons | apply List.Sublist.cons)) ?_
 intro z hz
 refine c_<|a_<|q_ 1 rfl<|g_<|b_<|c_<|n_ rfl ?_ ?_
 rotate_left
 ·intro hc25
  have hte : ps.take z.1 = ps := List.take_of_length_le (by omega)
  refine O_<|k_ nofun<|k_ nofun<|N_<|b_<|c_<|a_<|q_ 1 rfl<|d_ (P_ (m := ps.length) rfl Tryz.underlying116 rfl) rfl rfl<|q_ 1 rfl<|g_<|b_<|o_<|aB_ (List.Perm.swap _ _ _)<|f_ (rs := [.tmp 6]) rfl (RV.tmp rfl RV.nil) (z.2) (by rw [hte]; repeat (first | exact List.nil_sublist _ | exact List.Sublist.refl _ | apply List.Sublist.cons_cons | apply List.Sublist.cons)) ?_
  exact rfl
 intro hc25
 have hlt : z.1 < ps.length := by omega
 have hpm := hp _ (List.getElem_mem hlt)
 refine s_<|b_<|c_<|w_<|c_<|a_<|d_ (W_ (q := z.1) tabOk Tryz.underlying116 rfl rfl rfl rfl (List.getElem?_eq_getElem hlt) rfl rfl) rfl rfl ?_
 refine d_ (aH_ tabOk rfl rfl rfl hpm.1) rfl rfl<|eb_ (F_ tabOk rfl) rfl rfl fun b8=>?_
 refine e_ (p_ (L' := (ps[z.1]'hlt)) tabOk rfl rfl rfl u0_ hpm.1 (Nat.le_of_ble_eq_true rfl) hpm.2 (by exact x_ hpm.1)) rfl rfl ?_
 refine g_<|b_<|b8_ [] (Re.perm (xs := [.blk b8 141 (ps[z.1]'hlt), own 143 6 z.2 (rows ++ (ps.take z.1).map fun m => int from_ :: m)]) (ys := [own 143 6 z.2 (rows ++ (ps.take z.1).map fun m => int from_ :: m), .blk b8 141 (ps[z.1]'hlt)]) (List.Perm.swap _ _ _) (by intro x hx; simp only [List.mem_cons, List.not_mem_nil, or_false] at hx; rcases hx with rfl | rfl <;> rfl)) rfl ?_
 refine hN_ fun hnod => ?_
 have hbx : b8 ∉ mids [own 143 6 z.2 (rows ++ (ps.take z.1).map fun m => int from_ :: m)] ++ [] ∧ c ∉ mids [own 143 6 z.2 (rows ++ (ps.take z.1).map fun m => int from_ :: m)] ++ [] := by
  have h9 : (z.2.ownBlock.toList ++ [b8, c]).Nodup := hnod
  have h8 := (List.nodup_append.1 h9).2.2
  exact ⟨fun hm => h8 b8 (by simpa [mids, It.mids, ownPc] using hm) b8 (by simp) rfl, fun hm => h8 c (by simpa [mids, It.mids, ownPc] using hm) c (by simp) rfl⟩
 refine ah_ (mids [own 143 6 z.2 (rows ++ (ps.take z.1).map fun m => int from_ :: m)] ++ []) (.q 0 (.q 1 (.q 2 (.q 3 (.q 4 (.q 5 (.q 6 (.q 7 (.e 8 (.e 9 (.q 10 (.q 11 .nil)))))))))))) (by kernel_rfl) (by kernel_rfl) ?_
 refine hx_ fun hx9 =>qx_ 4 hx9 rfl<|j_ rfl (i_ (C := .v z.2) (h_ tabOk rfl rfl l2_ (by exact hbx.2) rfl) rfl) hx9 rfl rfl ?_
 refine qx_ 1 hx9 rfl<|j_ rfl (i_ (C := .agg (ps[z.1]'hlt)) (y_ tabOk rfl rfl rfl l1_ (by exact hbx.1) hpm.1) rfl) hx9 rfl rfl ?_
 refine j_ rfl (i_ (C := .agg (int from_ :: (ps[z.1]'hlt))) (u_ tabOk rfl rfl rfl (iN_ (f := from_) hpm.1 rfl rfl rfl)) rfl) hx9 rfl rfl<|ex_ rfl (ac_ tabOk Tryz.underlying95 rfl rfl rfl (aS_ (by rw [List.length_cons, hpm.1])) rfl rfl rfl) (by simp) rfl rfl ?_
 refine ch_ [own 143 6 z.2 (rows ++ (ps.take z.1).map fun m => int from_ :: m)] [] rfl (K_ (zs := (rows ++ (ps.take (z.1 + 1)).map fun m => int from_ :: m)) tabOk [] (by rw [List.take_succ_eq_append_getElem hlt, List.map_append, ← List.append_assoc]; rfl) Tryz.underlying95 rfl rfl rfl rfl rfl rfl (by intro c hc; rw [List.mem_singleton] at hc; subst hc; exact fz_ rfl hpm.2) (by unfold maxLen; simp only [List.length_append, List.length_map, List.length_take, List.length_cons, List.length_nil]; omega) (by rw [show Tryz.prog.bytesOf 143 = 80 by kernel_rfl]; simp only [List.length_append, List.length_map, List.length_take, List.length_cons, List.length_nil]; omega)) rfl (by intro k hk; simp [mids, It.mids, ownPc] at hk ⊢; simp [hk]) rfl rfl ?_
 rintro _ _ ⟨r37, rfl, rfl⟩
 refine ⟨[own 143 6 r37 (rows ++ (ps.take (z.1 + 1)).map fun m => int from_ :: m)], rfl, hx_ fun hx9 =>qx_ 2 hx9 rfl<|C_<|ao_ rfl (az_ (L' := [.v r37]) tabOk rfl rfl rfl rfl i0_ u2_ rfl (by rfl)) rfl rfl ?_⟩
 rintro _ _ ⟨rfl, rfl⟩
 refine A_<|b_<|a_<|d_ (E_ rfl rfl (by simp only [InR, lo, hi]; omega)) rfl rfl ?_
 refine q_ 1 rfl<|g_<|J_ (z.1 + 1, r37) (by omega) ((by dsimp only; omega)) (by exact ⟨rfl, rfl, rfl, rfl, rfl, rfl, trivial⟩) (sc_ (sk_ sr_))
end
section
variable {P : Program} {n : Nat} {W : Wd} {σ τ : Blks} {l : Slots} {X : List Nat} {x y : Operand} {d : Option Nat} {ty t e e' : TypeId} {pos : String} {aft : Array Edge} {g : Option (Nat × Bool)} {v : Value} {A : Abs} {tab : List (Nat × TI)} {xs : List (List Abs)} {s q jj : Nat} {cs : List Abs} {K : List Nat} {w : World}
theorem ga_ (hT : TabOk P tab) {sz fo ft f : Nat} {gs : List (Nat × Nat)} {zs : List Value} {j : TI} (ht : ti tab t = some ⟨sz, .struct gs, zs⟩) (hx : look l x = some (.v (eptr v (q * s)))) (hb : isOwn σ e' s v xs) (hpos : Nat.blt 0 s = true) (hq : xs[q]? = some cs) (hfo : gs[f]? = some (fo, ft)) (hj : ti tab ft = some j) (hs0 : Nat.beq j.size 0 = false) :
    Val P n W σ l X ⟨d, .fieldAddr t x f, ty, pos, aft, g⟩ (.v (eptr v (q * s + fo))) := av_ fun a w hs _ => by
  obtain ⟨us, h1, h2⟩ := hs.mem.ownR hb
  obtain ⟨b, off, c, hvv, hbl, vs, h3, h4, h5⟩ := fM_ h1 h2 (by simpa [Nat.blt_eq] using hpos) hq
  refine ⟨_, rfl, fun w' _ => ?_⟩
  rw [hvv]
  show Proofs.YtjclgkddfjbdiaaGreatDoor.Val _ _ _ _ _ (.pointer (some ⟨b, off + (q * s + fo), none⟩))
  rw [← Nat.add_assoc]
  exact Proofs.YtjclgkddfjbdiaaGreatDoor.G_ hT ht (by rw [hs.at2 hx, hs.plain hx, hvv]; rfl) hfo hj hs0
theorem cf_ (hT : TabOk P tab) {sz : Nat} {zs : List Value} (ht : ti tab t = some ⟨sz, .one, zs⟩) (hx : look l x = some (.v (eptr v (q * s + jj)))) (hb : isOwn σ e' s v xs) (hpos : Nat.blt 0 s = true) (hq : xs[q]? = some cs) (hv : cs[jj]? = some A) : Val P n W σ l [] ⟨d, .load t x, ty, pos, aft, g⟩ A := av_ fun a w hs hX => by
  obtain ⟨us, h1, h2⟩ := hs.mem.ownR hb
  obtain ⟨b, off, c, hvv, hbl, vs, h3, h4, h5⟩ := fM_ h1 h2 (by simpa [Nat.blt_eq] using hpos) hq
  obtain ⟨u, h6, h7⟩ := a9_ h4 hv
  refine ⟨u, h7, fun w' hw' => Proofs.YtjclgkddfjbdiaaGreatDoor.eX_ (b := b) (o := off + (q * s + jj)) hT ht (by rw [hs.at2 hx, hs.plain hx, hvv]; rfl) fun w1 e => by subst e; exact bO_ hw' (by simp) (by rw [← Nat.add_assoc]; exact h5 jj u h6)⟩
end
def tailV (s : Nat) : Value → Nat → Value
  | .slice (some a) m c, q => .slice (some ⟨a.block, a.off + m * s, none⟩) (q - m) (c - m)
  | v, _ => v
section
variable {P : Program} {n : Nat} {W : Wd} {σ τ : Blks} {l : Slots} {X : List Nat} {x y z : Operand} {d : Option Nat} {ty t t' e e' : TypeId} {pos : String} {aft : Array Edge} {g : Option (Nat × Bool)} {v u : Value} {k k' : IntKind} {tab : List (Nat × TI)} {xs ys : List (List Abs)} {s q r : Nat} {ops : Array Oper} {rest : List Oper} {Q : Exit → Act → World → Prop}
theorem Val.tail (hT : TabOk P tab) {j : TI} (hu : P.underlying t = some (.slice e)) (hj : ti tab e = some j) (h1 : Nat.beq j.size s = true) (hx : look l x = some (.v v)) (hb : own e' s v xs ∈ σ) {r1 r2 : Int} (hy : look l y = some (.v (.int k r1))) (hz : look l z = some (.v (.int k' r2))) (hr1 : r1 = (xs.length : Nat)) (hr2 : r2 = (q : Nat)) (hq : xs.length < q) (hc : q ≤ capV v) :
    Val P n W σ l X ⟨d, .slice t x (some y) (some z) none, ty, pos, aft, g⟩ (.v (tailV s v q)) := fun a w hs _ => by
  subst hr1 hr2
  have h1 := Nat.eq_of_beq_eq_true h1
  obtain ⟨us, hown, _⟩ := aL_ hs hb
  rcases hown.2 with ⟨rfl, h0⟩ | ⟨gb, c, cur, rfl, _, _, hn, _⟩
  · simp [capV] at hc; omega
  · simp only [capV] at hc
    refine ⟨_, rfl, fun w' _ => ?_⟩
    have h7 := (hT _ _ hj).sizeOf (w := w')
    have e1 : a.eval x = .slice (some ⟨gb, 0, none⟩) xs.length c := hs.plain hx
    have e2 : a.eval y = .int k ((xs.length : Nat) : Int) := hs.plain hy
    have e3 : a.eval z = .int k' ((q : Nat) : Int) := hs.plain hz
    have hcm : ¬ c = xs.length := by omega
    have hle : xs.length ≤ q := by omega
    simp [execOp, Instr.sliceAt, Instr.slice, Instr.sliceBounds, Instr.sliceBound, asIntOf, e1, e2, e3, run_underlying hu, Sem.run_bind, Result.andThen, h7, h1, hle, hc, hcm, Addr.add, tailV]
    try (intro h9; exact h9.symm)
def cut3 (s : Nat) : Value → Nat → Nat → Nat → Value
  | .slice (some a) _ _, i, j, m => .slice (some (if m = i then a else ⟨a.block, a.off + i * s, none⟩)) (j - i) (m - i)
  | v, _, _, _ => v
theorem Val.cut3 {z3 : Operand} {k3 : IntKind} {i j : Nat} (hT : TabOk P tab) {I : TI} (hu : P.underlying t = some (.slice e)) (hj : ti tab e = some I) (h1 : Nat.beq I.size s = true) (hx : look l x = some (.v v)) (hb : own e' s v xs ∈ σ) {r1 r2 r3 : Int} (hy : look l y = some (.v (.int k r1))) (hz : look l z = some (.v (.int k' r2))) (hz3 : look l z3 = some (.v (.int k3 r3))) (hr1 : r1 = (i : Nat)) (hr2 : r2 = (j : Nat)) (hr3 : r3 = (xs.length : Nat)) (hij : i ≤ j) (hjn : j < xs.length) :
    Val P n W σ l X ⟨d, .slice t x (some y) (some z) (some z3), ty, pos, aft, g⟩ (.v (cut3 s v i j xs.length)) := fun a w hs _ => by
  subst hr1 hr2 hr3
  have h1 := Nat.eq_of_beq_eq_true h1
  obtain ⟨us, hown, _⟩ := aL_ hs hb
  rcases hown.2 with ⟨rfl, h0⟩ | ⟨gb, c, cur, rfl, _, _, hn, _⟩
  · omega
  · refine ⟨_, rfl, fun w' _ => ?_⟩
    have h7 := (hT _ _ hj).sizeOf (w := w')
    have e1 : a.eval x = .slice (some ⟨gb, 0, none⟩) xs.length c := hs.plain hx
    have e2 : a.eval y = .int k ((i : Nat) : Int) := hs.plain hy
    have e3 : a.eval z = .int k' ((j : Nat) : Int) := hs.plain hz
    have e4 : a.eval z3 = .int k3 ((xs.length : Nat) : Int) := hs.plain hz3
    have hcm : ¬ xs.length = i := by omega
    have hle : j ≤ xs.length := by omega
    simp [execOp, Instr.sliceAt, Instr.slice, Instr.sliceBounds, Instr.sliceBound, asIntOf, e1, e2, e3, e4, run_underlying hu, Sem.run_bind, Result.andThen, h7, h1, hle, hij, hn, hcm, Addr.add, A.cut3]
    try (intro h9; exact h9.symm)
theorem j2_ {c : Code} (hb : own e s v xs ∈ σ) (k : xs.length ≤ capV v → SC P c (St n W σ l) Q) : SC P c (St n W σ l) Q := fun a w h => by
  refine k ?_ a w h
  obtain ⟨us, hown, _⟩ := aL_ h hb
  rcases hown.2 with ⟨rfl, h0⟩ | ⟨gb, c, cur, rfl, _, _, hn, _⟩
  · omega
  · exact hn
theorem fW_ (v : Value) (q : Nat) : capV (cutTo v q) = capV v := by cases v <;> rfl
theorem zero_one {zs : List Value} (h : zs.all Value.oneCell' = true) (k : Nat) : ∀ u ∈ (Builtin.zeroCells zs.toArray k).toList, u.oneCell' = true := fun u hu => by
  unfold Builtin.zeroCells at hu
  simp only [Array.toList_map, List.mem_map] at hu
  obtain ⟨i, hi, rfl⟩ := hu
  have hi2 : i < k * zs.toArray.size := by simpa using hi
  have hpos : 0 < zs.toArray.size := by
    rcases Nat.eq_zero_or_pos zs.toArray.size with h0 | h0
    · rw [h0] at hi2; simp at hi2
    · exact h0
  have hlt : i % zs.toArray.size < zs.toArray.size := Nat.mod_lt _ hpos
  rw [getElem!_pos zs.toArray _ hlt]
  exact List.all_eq_true.1 h _ (by simp)
theorem fr_ (hT : TabOk P tab) {j : TI} (hu : P.underlying t = some (.slice e)) (hj : ti tab e = some j) (hsz : Nat.beq j.size s = true) (h1 : j.zero.all Value.oneCell' = true) (hx : look l x = some (.v (tailV s v q))) (hq : xs.length < q) (hc : q ≤ capV v) (hup : Upd (own e s v xs) (own e s v xs) σ τ) :
    Eff P n W σ l v.ownBlock.toList ⟨d, .call { callee := .builtin .clear, args := #[x], argTypes := #[t] }, ty, pos, aft, g⟩ fun u τ' => u = .tup [] ∧ τ' = τ := fun ac w hst => by
  have hsz := Nat.eq_of_beq_eq_true hsz
  obtain ⟨us, hown, hr⟩ := aL_ hst hup.mem
  obtain ⟨I, hI, hIs, zv, hzv, hzc⟩ := (hT e j hj).info
  have hzl := (hT e j hj).len
  rcases hown.2 with ⟨rfl, h0⟩ | ⟨gb, cap, cur, rfl, hbase, hg, hn, hcap, hcs, htk⟩
  · simp [capV] at hc; omega
  simp only [capV] at hc
  have hzs : zv.cells.size = s := by rw [hzc, List.size_toArray, hzl, hsz]
  obtain ⟨k, hk⟩ : ∃ k, q - xs.length = k + 1 := ⟨q - xs.length - 1, by omega⟩
  have hzlen : (Builtin.zeroCells zv.cells (k + 1)).toList.length = (k + 1) * s := by
    rw [Array.length_toList]
    simp [Builtin.zeroCells, hzs]
  have hb1 : xs.length * s + (k + 1) * s ≤ cap * s := by rw [← Nat.add_mul]; exact Nat.mul_le_mul_right _ (by omega)
  have hrun := run_storeCells_at (P := P) gb (xs.length * s) e (Builtin.zeroCells zv.cells (k + 1)).toList 0 cur w hg (by rw [hzlen, hcs]; omega) (by rw [hzc]; exact zero_one h1 _)
  have hxx : Ext (Value.ownBlock (.slice (some ⟨gb, 0, none⟩) xs.length cap)).toList w (w.setRow gb (cur.toList.take (xs.length * s + 0) ++ (Builtin.zeroCells zv.cells (k + 1)).toList ++ cur.toList.drop (xs.length * s + 0 + (Builtin.zeroCells zv.cells (k + 1)).toList.length)).toArray) := (Ext.refl w).setRow (.inl (by simp [Value.ownBlock])) _
  have hm := hst.mem.upd hup hxx aM_ (fun k hk => .inl hk) rfl fun hca => ⟨us, ⟨hown.1, .inr ⟨gb, cap, _, rfl, hbase, setRow_heap w gb cur _ e (0, 0) hg, hn, hcap, ?_, ?_⟩⟩, ai_ hca _ _ _ hr⟩
  · refine ⟨.tuple #[], _, _, _, ⟨rfl, rfl⟩, hxx, ⟨[], rfl, rfl⟩, hm.1, hm.2, .inl ?_⟩
    have hx2 : ac.eval x = .slice (some ⟨gb, 0 + xs.length * s, none⟩) (q - xs.length) (cap - xs.length) := hst.plain hx
    rw [Nat.zero_add, hk] at hx2
    have hz2 : (zeroValue e).run P w = .ok zv w := by
      simp [zeroValue, typeInfo, hI, hzv, Sem.run_bind, Result.andThen]
    have hcl : (Builtin.clear_ #[t] ty #[.slice (some ⟨gb, xs.length * s, none⟩) (k + 1) (cap - xs.length)]).run P w = .ok (.tuple #[]) (w.setRow gb (cur.toList.take (xs.length * s + 0) ++ (Builtin.zeroCells zv.cells (k + 1)).toList ++ cur.toList.drop (xs.length * s + 0 + (Builtin.zeroCells zv.cells (k + 1)).toList.length)).toArray) := by
      simp [Builtin.clear_, run_underlying hu, hz2, Sem.run_bind, Result.andThen] at hrun ⊢
      try simp_all
    simp [execOp, resolve, invoke, builtin, hx2, hcl, Result.andThen]
  · simp only [List.size_toArray, List.length_append, List.length_take, List.length_drop, Array.length_toList] at hzlen ⊢
    omega
  · rw [← htk]
    have h9 : xs.length * s ≤ cur.toList.length := by rw [Array.length_toList (xs := cur), hcs]; omega
    simp only [Nat.add_zero, List.append_assoc]
    rw [List.take_append_of_le_length (by rw [List.length_take]; omega), List.take_take, Nat.min_self]
theorem eG_ (hT : TabOk P tab) {i : TI} (hu : P.underlying t = some (.slice e)) (hi : ti tab e = some i) (hsz : Nat.beq i.size s = true) (hx : look l x = some (.v (cutTo v q))) (hy : look l y = some (.v (cutS s v r))) (hqr : q ≤ r) (hr : r < xs.length) (h1 : ∀ c ∈ xs, ones c = true) (hz : xs.take q ++ xs.drop r = ys) (hup : Upd (own e s v xs) (own e s (cutTo v ys.length) ys) σ τ) :
    Eff P n W σ l v.ownBlock.toList ⟨d, .call { callee := .builtin .append, args := #[x, y], argTypes := #[t, t] }, ty, pos, aft, g⟩ fun u τ' => u = .v (cutTo v ys.length) ∧ τ' = τ := fun a w hs => by
  have hsz := Nat.eq_of_beq_eq_true hsz
  obtain ⟨us, hown, hrp⟩ := aL_ hs hup.mem
  obtain ⟨I, hI, hIs, _⟩ := (hT e i hi).info
  rcases hown.2 with ⟨rfl, h0⟩ | ⟨gb, cap, cur, rfl, hbase, hg, hn, hcap, hcs, htk⟩
  · omega
  have hcr : ¬ cap = r := by omega
  have e1 : a.eval x = .slice (some ⟨gb, 0, none⟩) q cap := hs.plain hx
  have e2 : a.eval y = .slice (some ⟨gb, 0 + r * s, none⟩) (xs.length - r) (cap - r) := by
    have := hs.plain hy
    simp only [cutS, hcr, if_false] at this
    exact this
  have hyl : ys.length = q + (xs.length - r) := by rw [← hz, List.length_append, List.length_take, List.length_drop]; omega
  have hlen := hown.1
  have hone := cC_ h1 hrp
  have hq2 := (bw_ hrp q (by omega)).1
  have hr2 := (bw_ hrp r (by omega)).2
  have hqs : q * s ≤ xs.length * s := Nat.mul_le_mul_right _ (by omega)
  have hrs : r * s ≤ xs.length * s := Nat.mul_le_mul_right _ (by omega)
  have hnc : xs.length * s ≤ cap * s := Nat.mul_le_mul_right _ hn
  have hown2 : w.ownsRow 0 e s (.slice (some ⟨gb, 0, none⟩) q cap) q (us.take (q * s)) := by
    refine ⟨by rw [List.length_take, hlen]; omega, .inr ⟨gb, cap, cur, rfl, hbase, hg, by omega, hcap, hcs, ?_⟩⟩
    rw [← htk, List.take_take, Nat.min_eq_left hqs]
  obtain ⟨w', hrun, h2, h3⟩ := run_append_own_spare (P := P) w 0 t ty e I s hu hI (by rw [hIs, hsz]) gb q cap (us.take (q * s)) hown2 ⟨gb, 0 + r * s, none⟩ (xs.length - r) (cap - r) (us.drop (r * s)) (by rw [List.length_drop, hlen, ← Nat.sub_mul]) (fun j u hj => by
      rw [List.getElem?_drop, ← htk, List.getElem?_take] at hj
      split at hj
      · rw [Addr.add_none, Nat.zero_add]
        simp only [World.cell?, hg]
        simpa using hj
      · cases hj) (fun u hu => hone u (List.mem_of_mem_drop hu)) (by omega)
  have hxx : Ext (Value.ownBlock (.slice (some ⟨gb, 0, none⟩) xs.length cap)).toList w w' := cn_ h3 fun k hk => .inl (by simpa [Value.ownBlock, eq_comm] using hk)
  have hm2 := hs.mem.upd hup hxx aM_ (fun k hk => .inl (by simpa [It.mids, ownPc, bY_] using hk)) rfl fun hca => ⟨us.take (q * s) ++ us.drop (r * s), by
      rw [hyl]; exact h2, hz ▸ aX_ (ai_ hca _ _ _ hq2) (ai_ hca _ _ _ hr2)⟩
  refine ⟨_, w', _, _, ⟨rfl, rfl⟩, hxx, rfl, hm2.1, hm2.2, .inl ?_⟩
  simp only [cutTo, hyl]
  simp only [Nat.zero_add] at hrun e2 ⊢
  simp [execOp, resolve, invoke, builtin, e1, e2, hrun, Result.andThen]
end
section
variable {c : Nat} {v : Value} {rows : List (List Abs)} {r0 : List Abs}
theorem del_snt {v : Value} {xs : List (List Abs)} {i j : Nat} (hij : i < j) (hjn : j < xs.length) (h1 : ∀ c ∈ xs, ones c = true) (hn : xs.length ≤ 1000000) : Spec Tryz.prog 87 [.v v, int (i : Nat), int (j : Nat)] [own 143 6 v xs] (fun _ : Unit => [own 143 6 (cutTo v (xs.take i ++ xs.drop j).length) (xs.take i ++ xs.drop j)]) (fun _ => .v (cutTo v (xs.take i ++ xs.drop j).length)) := by
 have hml : (xs.take i ++ xs.drop j).length = i + (xs.length - j) := by rw [List.length_append, List.length_take, List.length_drop]; omega
 refine t_ Tryz.func87 rfl Tryz.ntmps87 rfl fun G w =>c_<|j2_ (v := v) (xs := xs) (s := 6) (e := 143) i0_ fun hcap =>a_<|q_ 1 rfl<|g_<|b_<|c_<|a_<|q_ 4 rfl<|d_ (aG_ (m := xs.length) rfl i0_ Tryz.underlying95 rfl) rfl rfl<|d_ (Val.cut3 (s := 6) (i := i) (j := j) tabOk Tryz.underlying95 rfl rfl rfl i0_ rfl rfl rfl rfl rfl rfl (by omega) (by omega)) rfl rfl ?_
 refine g_<|b_<|c_<|c_<|a_<|q_ 3 rfl<|g_<|b_<|n_ rfl (by intro hc16; exfalso; omega) ?_
 intro hc16
 refine s_<|b_<|c_<|a_<|q_ 1 rfl<|d_ (aG_ (m := xs.length) rfl i0_ Tryz.underlying95 rfl) rfl rfl<|q_ 1 rfl<|g_<|b_<|c_<|T_ v.ownBlock.toList (.q 0 (.q 1 (.q 2 (.q 3 (.q 4 (.q 5 (.e 6 (.q 7 .nil)))))))) (by kernel_rfl) (by kernel_rfl) ?_
 refine X_ (by intro k hk; simp [mids, It.mids, ownPc, bY_] at hk ⊢; exact hk) fun hx9 => ?_
 refine qx_ 2 hx9 rfl<|j_ rfl (gb_ (s := 6) (q := i) tabOk Tryz.underlying95 rfl rfl i0_ rfl rfl (by omega)) hx9 rfl rfl ?_
 refine qx_ 2 hx9 rfl<|j_ rfl (a7_ (s := 6) (q := j) tabOk Tryz.underlying95 rfl rfl rfl i0_ rfl rfl (by omega)) hx9 rfl rfl ?_
 refine ex_ rfl (eG_ (s := 6) (q := i) (r := j) (ys := (xs.take i ++ xs.drop j)) tabOk Tryz.underlying95 rfl rfl rfl rfl (by omega) hjn h1 rfl u0_) (by simp) rfl rfl ?_
 refine X_ (by intro k hk; simp [mids, It.mids, ownPc, bY_] at hk ⊢; exact hk) fun hx9 => ?_
 refine qx_ 1 hx9 rfl<|C_<|b_<|c_<|a_<|q_ 2 rfl<|d_ (aG_ (m := (xs.take i ++ xs.drop j).length) rfl i0_ Tryz.underlying95 rfl) rfl rfl<|q_ 1 rfl<|d_ (Val.tail (s := 6) (q := xs.length) tabOk Tryz.underlying95 rfl rfl rfl i0_ rfl rfl rfl rfl (by omega) (by rw [fW_]; exact hcap)) rfl rfl ?_
 refine e_ (fr_ (s := 6) (xs := (xs.take i ++ xs.drop j)) (q := xs.length) tabOk Tryz.underlying95 rfl rfl rfl rfl (by omega) (by rw [fW_]; exact hcap) u0_) rfl rfl ?_
 exact g_<|b_<|c_<|a_<|q_ 2 rfl<|g_<|b_<|o_<|f_ (rs := [.tmp 6]) rfl (RV.tmp rfl RV.nil) (()) sr_<|rfl
theorem crat_s (h0 : r0.length = 6 ∧ ones r0 = true) : Spec Tryz.prog 62 [ptr c, int 0] [.rd c 97 [.v v], .rdpc (ownPc 143 6 v (r0 :: rows))] (fun _ : Unit => []) (fun _ => .tup [.agg r0, boo true]) := by
 refine t_ Tryz.func62 rfl Tryz.ntmps62 rfl fun G w =>c_<|a_<|eb_ (F_ tabOk rfl) rfl rfl fun b4=>?_
 refine q_ 1 rfl<|g_<|b_<|c_<|c_<|a_<|q_ 3 rfl<|D_ (t := 8) rfl (by intro hc8; exfalso; omega) ?_
 intro hc8
 refine q_ 2 rfl<|m_ (gI_ (v := v) (rows := r0 :: rows)) Casts.refl (by kernel_rfl) rfl rfl rfl ?_
 refine ap_<|fun _=>q_ 2 rfl<|g_<|b_<|n_ rfl (by intro hc13; exfalso; rw [List.length_cons] at hc13; omega) ?_
 intro hc13
 refine s_<|b_<|c_<|a_<|q_ 3 rfl<|d_ (i_ (C := .v v) (h_ tabOk rfl rfl r1_ List.not_mem_nil rfl) rfl) rfl rfl<|q_ 1 rfl<|d_ (aP_ (q := 0) tabOk Tryz.underlying95 rfl rfl r2_ rfl rfl (by simp) rfl rfl) rfl rfl ?_
 refine d_ (dC_ (q := 0) (s := 6) (cs := r0) tabOk rfl rfl rfl r2_ rfl rfl rfl) rfl rfl<|e_ (p_ (L' := r0) tabOk rfl rfl rfl u0_ h0.1 (Nat.le_of_ble_eq_true rfl) h0.2 (by exact x_ h0.1)) rfl rfl ?_
 exact q_ 1 rfl<|g_<|b_<|o_<|f_ (rs := [.cell 4 143, .tmp 5]) rfl (RV.cell rfl (RV.cellA tabOk rfl rfl l0_ (h0.1)) (RV.tmp rfl RV.nil)) (()) sn_<|rfl
set_option maxHeartbeats 1000000 in
theorem crtake_s (h0 : r0.length = 6 ∧ ones r0 = true) (hr : ∀ r ∈ rows, ones r = true) (h1 : 1 ≤ rows.length) (hl : rows.length ≤ 20000) : Spec Tryz.prog 61 [ptr c, int 0] [.blk c 97 [.v v], own 143 6 v (r0 :: rows)] (fun _ : Unit => [.blk c 97 [.v (cutTo v rows.length)], own 143 6 (cutTo v rows.length) rows]) (fun _ => .tup [.agg r0, boo true]) := by
 refine t_ Tryz.func61 rfl Tryz.ntmps61 rfl fun G w =>c_<|a_<|eb_ (F_ tabOk rfl) rfl rfl fun b4=>?_
 refine q_ 1 rfl<|g_<|b_<|c_<|a_<|q_ 2 rfl<|m_ (crat_s (v := v) (rows := rows) (r0 := r0) h0) Casts.refl (by kernel_rfl) rfl rfl rfl ?_
 refine ap_<|fun _=>q_ 3 rfl<|eb_ (F_ tabOk rfl) rfl rfl fun b6=>?_
 refine e_ (p_ (L' := r0) tabOk rfl rfl rfl u0_ h0.1 (Nat.le_of_ble_eq_true rfl) h0.2 (by exact x_ h0.1)) rfl rfl ?_
 refine q_ 1 rfl<|g_<|b_<|c_<|c_<|a_<|q_ 1 rfl<|g_<|b_<|ay_ rfl ?_ (by intro hc14; exfalso; cases hc14)
 intro hc14
 refine a_<|q_ 4 rfl<|d_ (i_ (C := .v v) (h_ tabOk rfl rfl l2_ List.not_mem_nil rfl) rfl) rfl rfl<|q_ 2 rfl<|d_ (i_ (C := int ((1 : Nat) : Int)) (E_ rfl rfl (by simp only [InR, lo, hi]; omega)) rfl) rfl rfl ?_
 refine m_ (del_snt (v := v) (xs := r0 :: rows) (i := 0) (j := 1) (by omega) (by rw [List.length_cons]; omega) (by intro x hx; rcases List.mem_cons.1 hx with rfl | hx; exact h0.2; exact hr x hx) (by rw [List.length_cons]; omega)) Casts.refl (by kernel_rfl) rfl rfl rfl ?_
 refine M_ [_, _, _] (β := []) rfl (by intro x hx; simp only [List.mem_cons, List.not_mem_nil, or_false] at hx; rcases hx with rfl; rfl) ?_
 intro _
 refine q_ 2 rfl<|e_ (az_ (L' := [.v (cutTo v rows.length)]) tabOk rfl rfl rfl rfl i3_ u2_ rfl rfl) rfl rfl<|g_<|b_<|c_<|a_<|d_ (i_ (C := .agg r0) (y_ tabOk rfl rfl rfl l0_ List.not_mem_nil h0.1) rfl) rfl rfl<|q_ 1 rfl<|e_ (p_ (L' := r0) tabOk rfl rfl rfl u1_ h0.1 (Nat.le_of_ble_eq_true rfl) h0.2 (by exact x_ h0.1)) rfl rfl ?_
 exact q_ 1 rfl<|g_<|b_<|o_<|f_ (rs := [.cell 4 143, .tmp 5]) rfl (RV.cell rfl (RV.cellA tabOk rfl rfl l1_ (h0.1)) (RV.tmp rfl RV.nil)) (()) (sk_ (sk_ sr_))<|rfl
end
structure Rng {α β : Type} (w : World) (b r : Nat) (K : α → Value) (V : β → Value) (Good : α → Prop) (m rest : List (α × β)) (cur : Option (α × β)) (es : Array MapEntry) (clock since : Nat) (seen : Array Nat) (c0 : Nat) : Prop where
  hb : w.heap[b]? = some (.map es clock)
  he : es.toList.map (fun e => (e.key, e.val)) = m.map (fun p => (K p.1, V p.2))
  nd : (m.map (·.1)).Nodup
  good : ∀ p ∈ m, Good p.1
  born : ∀ e ∈ es.toList, e.born < clock
  bnd : (es.toList.map (·.born)).Nodup
  hr : w.heap[r]? = some (.mapIter (some b) since seen c0)
  old : ∀ e ∈ es.toList, e.born < since
  le : since ≤ c0
  le2 : since ≤ clock
  left : ∀ p, p ∈ rest ↔ ∃ (j : Nat) (e : MapEntry), m[j]? = some p ∧ es.toList[j]? = some e ∧ seen.contains e.born = false
  last : ∀ p, cur = some p → c0 = clock ∧ ∃ (e : MapEntry) (s' : Array Nat), e ∈ es.toList ∧ e.key = K p.1 ∧ e.val = V p.2 ∧ seen = s'.push e.born
def rngPc {α β : Type} (b r : Nat) (K : α → Value) (V : β → Value) (Good : α → Prop) (m rest : List (α × β)) (cur : Option (α × β)) : Pc where
  ids := [b, r]
  p := fun _ w => r ≠ b ∧ ∃ es clock since seen c0, Rng w b r K V Good m rest cur es clock since seen c0
  carry := fun _ _ _ _ _ hs ⟨hn, es, clock, since, seen, c0, h⟩ => ⟨hn, es, clock, since, seen, c0, { h with hb := (hs b (by simp)).trans h.hb, hr := (hs r (by simp)).trans h.hr }⟩
  lt := fun _ w ⟨_, es, clock, since, seen, c0, h⟩ k hk => by
    simp at hk
    rcases hk with rfl | rfl
    · exact aN_ h.hb
    · exact aN_ h.hr
theorem fU_ {w : World} {b : Nat} {o : Obj} (hb : b < w.heap.size) : Ext [b] w (Go.ChangeMaps.setBlock w b o) :=
  ⟨rfl, rfl, rfl, by simp [Go.ChangeMaps.setBlock], fun k _ hn => by
    have : b ≠ k := fun h => hn (by simp [h])
    simp [Go.ChangeMaps.setBlock, Array.getElem?_setIfInBounds_ne this]⟩
theorem sb_same {w : World} {b : Nat} {o : Obj} (hb : b < w.heap.size) : (Go.ChangeMaps.setBlock w b o).heap[b]? = some o := by
  simp [Go.ChangeMaps.setBlock, Array.getElem?_setIfInBounds_self, hb]
theorem sb_other {w : World} {b k : Nat} {o : Obj} (h : b ≠ k) : (Go.ChangeMaps.setBlock w b o).heap[k]? = w.heap[k]? := by
  simp [Go.ChangeMaps.setBlock, Array.getElem?_setIfInBounds_ne h]
section
variable {α β : Type} {w : World} {b r : Nat} {K : α → Value} {V : β → Value} {Good : α → Prop} {m rest : List (α × β)} {cur : Option (α × β)} {es : Array MapEntry} {clock since : Nat} {seen : Array Nat} {c0 : Nat}
theorem jt_ {es : List MapEntry} (h : es.map (fun e => (e.key, e.val)) = m.map (fun p => (K p.1, V p.2))) : es.length = m.length := by
  have h3 := congrArg List.length h
  simpa using h3
theorem enc_at {es : List MapEntry} (h : es.map (fun e => (e.key, e.val)) = m.map (fun p => (K p.1, V p.2))) {j : Nat} {e : MapEntry} {p : α × β} (he : es[j]? = some e) (hp : m[j]? = some p) : e.key = K p.1 ∧ e.val = V p.2 := by
  have h1 : (es.map (fun e => (e.key, e.val)))[j]? = (m.map (fun p => (K p.1, V p.2)))[j]? := by rw [h]
  rw [List.getElem?_map, List.getElem?_map, he, hp] at h1
  simpa using h1
theorem nd_at {l : List (α × β)} (h : (l.map (·.1)).Nodup) {i j : Nat} {p q : α × β} (hi : l[i]? = some p) (hj : l[j]? = some q) : p.1 = q.1 ↔ i = j := by
  have hi2 : (l.map (·.1))[i]? = some p.1 := by rw [List.getElem?_map, hi]; rfl
  have hj2 : (l.map (·.1))[j]? = some q.1 := by rw [List.getElem?_map, hj]; rfl
  constructor
  · intro e
    have hlt : i < (l.map (·.1)).length := (List.getElem?_eq_some_iff.1 hi2).1
    exact (List.getElem?_inj hlt h).1 (by rw [hi2, hj2, e])
  · rintro rfl
    rw [hi] at hj
    cases hj
    rfl
theorem bn_at {l : List MapEntry} (h : (l.map (·.born)).Nodup) {i j : Nat} {p q : MapEntry} (hi : l[i]? = some p) (hj : l[j]? = some q) : p.born = q.born ↔ i = j := by
  have hi2 : (l.map (·.born))[i]? = some p.born := by rw [List.getElem?_map, hi]; rfl
  have hj2 : (l.map (·.born))[j]? = some q.born := by rw [List.getElem?_map, hj]; rfl
  constructor
  · intro e
    have hlt : i < (l.map (·.born)).length := (List.getElem?_eq_some_iff.1 hi2).1
    exact (List.getElem?_inj hlt h).1 (by rw [hi2, hj2, e])
  · rintro rfl
    rw [hi] at hj
    cases hj
    rfl
theorem Rng.sub (h : Rng w b r K V Good m rest cur es clock since seen c0) : ∀ p ∈ rest, p ∈ m := fun p hp => by
  obtain ⟨j, e, h1, _⟩ := (h.left p).1 hp
  exact List.mem_of_getElem? h1
theorem Rng.map (h : Rng w b r K V Good m rest cur es clock since seen c0) : MapOf w b K V Good m := ⟨es, clock, h.hb, h.he, h.nd, h.good, h.born, h.bnd⟩
theorem Rng.next [DecidableEq α] {P : Program} (hne : r ≠ b) (h : Rng w b r K V Good m rest cur es clock since seen c0) (ty : TypeId) :
    (rest = [] ∧ (Instr.next (.pointer (some ⟨r, 0, none⟩)) false ty).run P w = .ok (.tuple #[.bool false]) w) ∨
    ∃ p ∈ rest, ∃ w', (Instr.next (.pointer (some ⟨r, 0, none⟩)) false ty).run P w = .ok (.tuple #[.bool true, K p.1, V p.2]) w' ∧ Ext [b, r] w w' ∧
      ∃ seen' c0', Rng w' b r K V Good m (rest.filter fun q => decide (q.1 ≠ p.1)) (some p) es clock since seen' c0' := by
  have hmem : ∀ e, e ∈ (leftOf es seen).toList ↔ e ∈ es.toList ∧ seen.contains e.born = false := fun e => by
    unfold leftOf
    rw [Array.toList_filter, List.mem_filter]
    cases seen.contains e.born <;> simp
  rcases run_next_at (P := P) w ty r b since c0 seen es clock h.hr h.hb h.old h.le with ⟨h0, hrun⟩ | ⟨e, he, w1, hw1, hrun⟩
  · refine .inl ⟨?_, hrun⟩
    rw [List.eq_nil_iff_forall_not_mem]
    intro p hp
    obtain ⟨j, e, _, h2, h3⟩ := (h.left p).1 hp
    have h4 := (hmem e).2 ⟨List.mem_of_getElem? h2, h3⟩
    have h5 : (leftOf es seen).toList = [] := List.length_eq_zero_iff.1 (by simpa using h0)
    rw [h5] at h4
    cases h4
  · obtain ⟨h1, h2⟩ := (hmem e).1 he
    obtain ⟨j, hj⟩ := List.getElem?_of_mem h1
    have hjl : j < es.toList.length := (List.getElem?_eq_some_iff.1 hj).1
    have hjm : j < m.length := by rw [← jt_ h.he]; exact hjl
    obtain ⟨p, hp⟩ : ∃ p, m[j]? = some p := ⟨_, List.getElem?_eq_getElem hjm⟩
    obtain ⟨hk, hv⟩ := enc_at h.he hj hp
    have hheap : w1.heap = w.heap := by rcases hw1 with rfl | rfl <;> rfl
    have hx1 : Ext [] w w1 := by
      rcases hw1 with rfl | rfl
      · exact Ext.refl _
      · exact (Ext.refl _).drew
    have hrl : r < w1.heap.size := by rw [hheap]; exact aN_ h.hr
    refine .inr ⟨p, (h.left p).2 ⟨j, e, hp, hj, h2⟩, _, by rw [← hk, ← hv]; exact hrun, ?_, _, _, ⟨?_, h.he, h.nd, h.good, h.born, h.bnd, sb_same hrl, h.old, ?_, ?_, ?_, ?_⟩⟩
    · refine ⟨(fU_ hrl).os.trans hx1.os, (fU_ hrl).tape.trans hx1.tape, (fU_ hrl).output.trans hx1.output, Nat.le_trans hx1.size (fU_ hrl).size, fun k hk2 hn => ?_⟩
      rw [(fU_ hrl).block k (by rw [hheap]; exact hk2) (fun hk3 => hn (by simp at hk3; simp [hk3])), hheap]
    · rw [sb_other hne, hheap]
      exact h.hb
    · exact h.le2
    · exact h.le2
    · intro q
      rw [List.mem_filter, h.left q, decide_eq_true_eq]
      constructor
      · rintro ⟨⟨i, e', h3, h4, h5⟩, h6⟩
        refine ⟨i, e', h3, h4, ?_⟩
        rw [Array.contains_push, h5, Bool.false_or, beq_eq_false_iff_ne]
        intro e6
        exact h6 ((nd_at h.nd h3 hp).2 ((bn_at h.bnd h4 hj).1 e6))
      · rintro ⟨i, e', h3, h4, h5⟩
        rw [Array.contains_push, Bool.or_eq_false_iff, beq_eq_false_iff_ne] at h5
        refine ⟨⟨i, e', h3, h4, h5.1⟩, fun e6 => h5.2 ?_⟩
        exact (bn_at h.bnd h4 hj).2 ((nd_at h.nd h3 hp).1 e6)
    · intro p' hp'
      cases hp'
      exact ⟨rfl, e, seen, h1, hk, hv, rfl⟩
end
section
variable {P : Program} {n : Nat} {W : Wd} {σ τ : Blks} {l : Slots} {X : List Nat} {x y z : Operand} {d : Option Nat} {ty t k e : TypeId} {pos : String} {aft : Array Edge} {g : Option (Nat × Bool)} {b r : Nat} {A B C : Abs}
variable {α β : Type} [DecidableEq α] {K : α → Value} {V : β → Value} {Good : α → Prop} {m rest : List (α × β)} {cur : Option (α × β)} {a : α} {p : α × β} {Q : Exit → Act → World → Prop}
omit [DecidableEq α] in
theorem gf_ {τ : Nat → Blks} (ht : P.underlying t = some (.map k e)) (hx : look l x = some (mapV b)) (hu : ∀ r, Upd (.pc (mapPc b K V Good m)) (.pc (rngPc b r K V Good m m none)) σ (τ r)) :
    Eff P n W σ l [b] ⟨d, .range t x, ty, pos, aft, g⟩ fun u τ' => ∃ r : Nat, u = .v (.pointer (some ⟨r, 0, none⟩)) ∧ τ' = τ r := fun ac w hs => by
  have h1 : MapOf w b K V Good m := hs.mem.hold _ (hu 0).mem
  obtain ⟨es, clock, hb, he, hnd, hg, hborn, hbnd⟩ := h1
  have hbl := aN_ hb
  have hne : w.heap.size ≠ b := by omega
  have hx2 : Ext [b] w (w.alloc (.mapIter (some b) clock #[] clock)) := (Ext.new w _).mono (by simp)
  have hal : ∀ k, k < w.heap.size → (w.alloc (.mapIter (some b) clock #[] clock)).heap[k]? = w.heap[k]? := fun k hk => (Ext.new w _).block k hk (by simp)
  have h4 := hs.mem.upd (hu w.heap.size) (hx2.mono (by simp [It.mids, mapPc])) (by simp [It.mids, rngPc, Ne.symm hne]) (fun k hk => by
      simp [It.mids, rngPc] at hk
      rcases hk with rfl | rfl
      · exact .inl (by simp [It.mids, mapPc])
      · exact .inr (Nat.le_refl _)) rfl (fun _ => ⟨hne, es, clock, clock, #[], clock, (hal b hbl).trans hb, he, hnd, hg, hborn, hbnd, heap_alloc_new w _, hborn, Nat.le_refl _, Nat.le_refl _, fun p => ?_, fun p hp => by cases hp⟩)
  · refine ⟨.pointer (some ⟨w.heap.size, 0, none⟩), _, _, _, ⟨_, rfl, rfl⟩, hx2, rfl, h4.1, h4.2, .inl ?_⟩
    simp [execOp, hs.plain hx, run_range_map w t k e b es clock ht hb, Sem.run_bind, Result.andThen]
  · constructor
    · intro hp
      obtain ⟨j, hj⟩ := List.getElem?_of_mem hp
      have hjl : j < es.toList.length := by rw [jt_ he]; exact (List.getElem?_eq_some_iff.1 hj).1
      exact ⟨j, _, hj, List.getElem?_eq_getElem hjl, by simp⟩
    · rintro ⟨j, e, h1, _⟩
      exact List.mem_of_getElem? h1
theorem gW_ {τ : List (α × β) → Option (α × β) → Blks} (hx : look l x = some (.v (.pointer (some ⟨r, 0, none⟩)))) (hu : ∀ rest' cur', Upd (.pc (rngPc b r K V Good m rest cur)) (.pc (rngPc b r K V Good m rest' cur')) σ (τ rest' cur')) :
    Eff P n W σ l [b, r] ⟨d, .next x false, ty, pos, aft, g⟩ fun u τ' => ∃ (o : Option (α × β)) (rest' : List (α × β)), (o = none → rest = []) ∧ (∀ p, o = some p → p ∈ rest ∧ rest' = rest.filter fun q => decide (q.1 ≠ p.1)) ∧
      u = .tup (.v (.bool o.isSome) :: (match o with | none => [] | some p => [.v (K p.1), .v (V p.2)])) ∧ τ' = τ rest' o := fun ac w hs => by
  obtain ⟨hne, es, clock, since, seen, c0, h⟩ : (rngPc b r K V Good m rest cur).p _ w := hs.mem.hold _ (hu [] none).mem
  have hnd : (It.pc (rngPc b r K V Good m rest cur)).mids.Nodup := by simp [It.mids, rngPc, Ne.symm hne]
  rcases h.next (P := P) hne ty with ⟨h0, hrun⟩ | ⟨p, hp, w', hrun, hx2, seen', c0', h'⟩
  · have h4 := hs.mem.upd (hu rest none) (Ext.refl w) hnd (fun k hk => .inl hk) rfl (fun hc => (rngPc b r K V Good m rest none).carry _ _ _ _ hc (fun _ _ => rfl) ⟨hne, es, clock, since, seen, c0, { h with last := fun p hp => by cases hp }⟩)
    refine ⟨.tuple #[.bool false], w, _, _, ⟨none, rest, fun _ => h0, fun p hp => (by cases hp), rfl, rfl⟩, Ext.refl w, ⟨[.bool false], rfl, _, _, rfl, rfl, rfl⟩, h4.1, h4.2, .inl ?_⟩
    simp [execOp, hs.plain hx, hrun, Sem.run_bind, Result.andThen]
  · have h4 := hs.mem.upd (hu _ (some p)) (hx2.mono (by simp [It.mids, rngPc])) hnd (fun k hk => .inl hk) rfl (fun hc => ⟨hne, es, clock, since, seen', c0', h'⟩)
    refine ⟨.tuple #[.bool true, K p.1, V p.2], w', _, _, ⟨some p, _, fun h => (by cases h), fun q hq => (by cases hq; exact ⟨hp, rfl⟩), rfl, rfl⟩, hx2, ⟨[.bool true, K p.1, V p.2], rfl, _, _, rfl, rfl, _, _, rfl, rfl, _, _, rfl, rfl, rfl⟩, h4.1, h4.2, .inl ?_⟩
    simp [execOp, hs.plain hx, hrun, Sem.run_bind, Result.andThen]
omit [DecidableEq α] in
theorem il_ {c : Code} (hu : Upd (.pc (rngPc b r K V Good m rest cur)) (.pc (mapPc b K V Good m)) σ τ) (q : SC P c (St n W τ l) Q) : SC P c (St n W σ l) Q := fun ac w hs => by
  obtain ⟨hne, es, clock, since, seen, c0, h⟩ : (rngPc b r K V Good m rest cur).p _ w := hs.mem.hold _ hu.mem
  have h4 := hs.mem.upd hu (Ext.refl w) (by simp [It.mids, mapPc]) (fun k hk => .inl (by simp [It.mids, mapPc, rngPc] at hk ⊢; exact .inl hk)) rfl (fun _ => h.map)
  exact q ac w (hs.to h4.1 h4.2)
end
section
variable {α β : Type} [DecidableEq α] {tm tm' : List (α × (Value × β))} {a c : α} {u : Value} {x : β}
def plM (tm : List (α × (Value × β))) : List (α × β) := tm.map fun e => (e.1, e.2.2)
theorem e8_ : ∀ (tm : List (α × (Value × β))), aget (plM tm) a = (aget tm a).map (·.2)
  | [] => rfl
  | e :: tm => by
    have h := e8_ tm
    unfold plM aget at h ⊢
    rw [List.map_cons, List.find?_cons, List.find?_cons]
    by_cases he : e.1 = a
    · simp [he]
    · simpa [he] using h
omit [DecidableEq α] in
theorem e7_ (tm : List (α × (Value × β))) : (plM tm).map (·.1) = tm.map (·.1) := by
  unfold plM
  rw [List.map_map]
  rfl
theorem plM_put (tm : List (α × (Value × β))) (a : α) (u : Value) (x : β) : plM (aput tm a (u, x)) = aput (plM tm) a x := by
  have hg := e8_ tm (a := a)
  unfold aput
  rw [hg, Option.isSome_map]
  split
  · unfold plM
    rw [List.map_map, List.map_map]
    refine List.map_congr_left fun e _ => ?_
    show ((if e.1 = a then (a, (u, x)) else e).1, (if e.1 = a then (a, (u, x)) else e).2.2) = if e.1 = a then (a, x) else (e.1, e.2.2)
    split <;> rfl
  · unfold plM
    rw [List.map_append]
    rfl
end
def tmPc {α β : Type} (b : Nat) (K : α → Value) (Good : α → Prop) (enc : β → Abs) (m : List (α × β)) : Pc where
  ids := [b]
  p := fun K' w => ∃ tm : List (α × (Value × β)), plM tm = m ∧ MapOf w b K id Good (rawM tm) ∧ ∀ y ∈ facM enc tm, rep K' w y.2 y.1
  carry := fun _ _ _ _ hc hs ⟨tm, h1, h2, h3⟩ => ⟨tm, h1, hq_ h2 (hs b (by simp)), fun y hy => aY_ hc _ _ (h3 y hy)⟩
  lt := fun _ _ ⟨_, _, h2, _⟩ k hk => by simp at hk; subst hk; exact h2.lt
section
variable {P : Program} {n : Nat} {W : Wd} {σ τ : Blks} {l : Slots} {X : List Nat} {x y z : Operand} {d : Option Nat} {ty t k e : TypeId} {pos : String} {aft : Array Edge} {g : Option (Nat × Bool)} {b : Nat} {A B C : Abs} {ops : Array Oper} {rest : List Oper} {Q : Exit → Act → World → Prop}
variable {α β : Type} [DecidableEq α] {K : α → Value} {Good : α → Prop} {enc : β → Abs} {m : List (α × β)} {a : α} {v z0 : β} {zv : Value}
abbrev isTm (σ : Blks) (b : Nat) (K : α → Value) (Good : α → Prop) (enc : β → Abs) (m : List (α × β)) : Prop := It.pc (tmPc b K Good enc m) ∈ σ ∨ It.rdpc (tmPc b K Good enc m) ∈ σ
omit [DecidableEq α] in
theorem fN_ {w0 w : World} {F G : List Nat} {σ : Blks} (h : Mem w0 F G σ w) (hb : isTm σ b K Good enc m) : ∃ tm : List (α × (Value × β)), plM tm = m ∧ MapOf w b K id Good (rawM tm) ∧ ∀ y ∈ facM enc tm, rep (mids σ ++ G) w y.2 y.1 := by
  rcases hb with hb | hb
  · exact h.hold _ hb
  · exact h.hold _ hb
theorem tm_rep {tm : List (α × (Value × β))} {K' : List Nat} {w : World} (h : ∀ y ∈ facM enc tm, rep K' w y.2 y.1) (hz : rep K' w (enc z0) zv) : rep K' w (enc ((aget (plM tm) a).getD z0)) (((aget (rawM tm) a).map id).getD zv) := by
  rw [dM_, e8_]
  cases hg : aget tm a with
  | none => exact hz
  | some e => exact h _ (List.mem_map.2 ⟨(a, e), jQ_ hg, rfl⟩)
theorem et_ (kf : KeyFit P k K Good) (ht : P.underlying t = some (.map k e)) (hz : ∀ w, (zeroValue e).run P w = .ok zv w) (hzr : ∀ K w, rep K w (enc z0) zv) (hx : look l x = some (mapV b)) (hb : isTm σ b K Good enc m) (hbX : b ∉ X)
    (hy : look l y = some A) (hA : A.is (K a)) (ha : Good a) : Val P n W σ l X ⟨d, .lookup t x y true, ty, pos, aft, g⟩ (.tup [enc ((aget m a).getD z0), boo (aget m a).isSome]) := fun ac w hs _ => by
  obtain ⟨tm, rfl, h1, h2⟩ := fN_ hs.mem hb
  have e1 := hs.plain hx
  have e2 := hA.1 _ _ _ (hs.eval hy)
  refine ⟨.tuple #[((aget (rawM tm) a).map id).getD zv, .bool (aget (rawM tm) a).isSome], ⟨_, rfl, _, _, rfl, tm_rep h2 (hzr _ _), _, _, rfl, ?_, rfl⟩, fun w' hw' => ?_⟩
  · rw [e8_, dM_, Option.isSome_map, Option.isSome_map]; exact rfl
  · simp only [execOp, e1, e2, Sem.run_bind, (h1.ext hw' hbX).look_run kf ht (hz w') ha true, if_true, Result.andThen_ok, Sem.run_pure]
theorem aZ_ (kf : KeyFit P k K Good) (ht : P.underlying t = some (.map k e)) (hz : ∀ w, (zeroValue e).run P w = .ok zv w) (hzr : ∀ K w, rep K w (enc z0) zv) (hx : look l x = some (mapV b)) (hb : isTm σ b K Good enc m) (hbX : b ∉ X)
    (hy : look l y = some A) (hA : A.is (K a)) (ha : Good a) : Val P n W σ l X ⟨d, .lookup t x y false, ty, pos, aft, g⟩ (enc ((aget m a).getD z0)) := fun ac w hs _ => by
  obtain ⟨tm, rfl, h1, h2⟩ := fN_ hs.mem hb
  have e1 := hs.plain hx
  have e2 := hA.1 _ _ _ (hs.eval hy)
  refine ⟨((aget (rawM tm) a).map id).getD zv, tm_rep h2 (hzr _ _), fun w' hw' => ?_⟩
  simp only [execOp, e1, e2, Sem.run_bind, (h1.ext hw' hbX).look_run kf ht (hz w') ha false, Bool.false_eq_true, if_false, Result.andThen_ok, Sem.run_pure]
theorem bB_ {m' : List (α × β)} (kf : KeyFit P k K Good) (ht : P.underlying t = some (.map k e)) (hx : look l x = some (mapV b)) (hu : Upd (.pc (tmPc b K Good enc m)) (.pc (tmPc b K Good enc m')) σ τ) (hy : look l y = some A) (hA : A.is (K a)) (ha : Good a) (hz : look l z = some (enc v)) (hm : aput m a v = m') :
    Eff P n W σ l [b] ⟨d, .mapUpdate t x y z, ty, pos, aft, g⟩ fun u τ' => u = .v undef ∧ τ' = τ := fun ac w hs => by
  subst hm
  obtain ⟨tm, rfl, h1, h2⟩ := fN_ hs.mem (.inl hu.mem)
  have h5 := hs.eval hz
  obtain ⟨w', hr, h6, h3⟩ := h1.put_run kf ht ha (ac.eval z)
  have h4 := hs.mem.upd hu (h3.mono (by simp [It.mids, tmPc])) (by simp [It.mids, tmPc]) (fun k hk => .inl hk) rfl (fun hc => ⟨aput tm a (ac.eval z, v), plM_put _ _ _ _, by rw [rawM_put]; exact h6, fun y hy => by
    rcases List.mem_cons.1 (facM_put tm a (ac.eval z) v y hy) with rfl | hy
    · exact aY_ hc _ _ h5
    · exact aY_ hc _ _ (h2 y hy)⟩)
  refine ⟨_, w', _, _, ⟨rfl, rfl⟩, h3, rfl, h4.1, h4.2, .inr ⟨rfl, ?_⟩⟩
  simp only [id] at hr
  simp only [execOp, hs.plain hx, hA.1 _ _ _ (hs.eval hy), Sem.run_bind, hr, Result.andThen_ok, Sem.run_pure]
omit [DecidableEq α] in
theorem B_ {o : Op} (K : α → Value) (Good : α → Prop) (enc : β → Abs) (hrun : ∀ (ac : Act) (w : World), (execOp ac.eval ⟨d, o, ty, pos, aft, g⟩).run P w = .ok (.value (.map (some w.heap.size))) (w.alloc (.map #[] 0))) :
    Eff P n W σ l [] ⟨d, o, ty, pos, aft, g⟩ fun u τ' => ∃ b, u = mapV b ∧ τ' = .pc (tmPc b K Good enc []) :: σ := fun ac w hs => by
  have hx : Ext [] w (w.alloc (.map #[] 0)) := (Ext.refl w).alloc _
  have h4 := hs.mem.new (y := .pc (tmPc w.heap.size K Good enc [])) hx (by simp [It.mids, tmPc]) (by simp [It.mids, tmPc]) rfl (fun _ => ⟨[], rfl, MapOf.new w, fun y hy => by cases hy⟩)
  exact ⟨_, _, _, _, ⟨w.heap.size, rfl, rfl⟩, hx, rfl, h4.1, h4.2, .inl (hrun ac w)⟩
/-! ### Opened: the map's own values, and what they are -/
omit [DecidableEq α] in
theorem Re.tmIn {tm : List (α × (Value × β))} (hm : plM tm = m) : Re [facts (facM enc tm), .pc (mapPc b K id Good (rawM tm))] [.pc (tmPc b K Good enc m)] := ⟨⟨[], by simp [mids, It.mids, mapPc, tmPc, factsPc]⟩, by simp [It.rids], fun K' w h y hy => by
  rw [List.mem_singleton.1 hy]
  exact ⟨tm, hm, h (.pc (mapPc b K id Good (rawM tm))) (by simp), fun y hy => (h (facts (facM enc tm)) (by simp) : ∀ x ∈ facM enc tm, rep K' w x.2 x.1) y hy⟩⟩
omit [DecidableEq α] in
theorem St.tmOpen {ac : Act} {w : World} {pre post : Blks} (h : St n W (pre ++ .pc (tmPc b K Good enc m) :: post) l ac w) : ∃ tm : List (α × (Value × β)), plM tm = m ∧ St n W (pre ++ facts (facM enc tm) :: .pc (mapPc b K id Good (rawM tm)) :: post) l ac w := by
  obtain ⟨tm, rfl, h1, h2⟩ := fN_ (b := b) (K := K) (Good := Good) (enc := enc) (m := m) h.mem (.inl (by simp))
  have hids : mids (pre ++ facts (facM enc tm) :: .pc (mapPc b K id Good (rawM tm)) :: post) = mids (pre ++ .pc (tmPc b K Good enc (plM tm)) :: post) := by
    simp [L_, ad_, It.mids, mapPc, tmPc, factsPc]
  have h3 := h.mem.step (τ := pre ++ facts (facM enc tm) :: .pc (mapPc b K id Good (rawM tm)) :: post) (Y := []) (Ext.refl w) (by simp) (fun k hk => .inl (by rw [← hids]; exact hk)) (fun y hy => ?_) (by rw [hids]; exact h.mem.nodup) fun hc y hy => ?_
  · exact ⟨tm, rfl, h.to h3.1 h3.2⟩
  · simp only [List.mem_append, List.mem_cons] at hy
    rcases hy with hy | rfl | rfl | hy
    · exact h.mem.ro y (by simp [hy])
    · simp [It.rids]
    · simp [It.rids]
    · exact h.mem.ro y (by simp [hy])
  · simp only [List.mem_append, List.mem_cons] at hy
    rcases hy with hy | rfl | rfl | hy
    · exact h.mem.keep (Y := []) (Ext.refl w) hc (by simp [hy]) (by simp) (by simp)
    · exact fun y hy => aY_ hc _ _ (h2 y hy)
    · exact h1
    · exact h.mem.keep (Y := []) (Ext.refl w) hc (by simp [hy]) (by simp) (by simp)
omit [DecidableEq α] in
theorem jZ_ (pre : Blks) {post : Blks} (hσ : σ = pre ++ .pc (tmPc b K Good enc m) :: post) (k : ∀ tm : List (α × (Value × β)), plM tm = m → SL P ops rest (St n W (pre ++ facts (facM enc tm) :: .pc (mapPc b K id Good (rawM tm)) :: post) l) Q) : SL P ops rest (St n W σ l) Q := by
  subst hσ
  intro a w h
  obtain ⟨tm, h1, h2⟩ := h.tmOpen
  exact k tm h1 a w h2
omit [DecidableEq α] in
theorem Spec.tmRead {f : FuncId} {args : List Abs} {σ1 : Blks} {ι : Type} {τ : ι → Blks} {res : ι → Abs} (h : ∀ tm : List (α × (Value × β)), plM tm = m → Spec P f args (σ1 ++ [.rdpc (mapPc b K id Good (rawM tm))]) τ res) : Spec P f args (σ1 ++ [.rdpc (tmPc b K Good enc m)]) τ res := fun G w vals hm hv => by
  obtain ⟨tm, rfl, h1, h2⟩ := fN_ (b := b) (K := K) (Good := Good) (enc := enc) (m := m) hm (.inr (by simp))
  have hids : mids (σ1 ++ [.rdpc (mapPc b K id Good (rawM tm))]) = mids (σ1 ++ [.rdpc (tmPc b K Good enc (plM tm))]) := by
    simp [L_, ad_, It.mids]
  have hc : Carry (mids (σ1 ++ [.rdpc (tmPc b K Good enc (plM tm))]) ++ G) w (mids (σ1 ++ [.rdpc (mapPc b K id Good (rawM tm))]) ++ G) w := by rw [hids]; exact Carry.refl
  have hm2 : Mem w (mids (σ1 ++ [.rdpc (mapPc b K id Good (rawM tm))])) G (σ1 ++ [.rdpc (mapPc b K id Good (rawM tm))]) w := by
    refine ⟨Ext.refl w, fun k hk => .inl hk, by rw [hids]; exact hm.sep, hm.old, fun x hx => ?_, by rw [hids]; exact hm.nodup, fun x hx => ?_⟩
    · rcases List.mem_append.1 hx with hx | hx
      · exact hm.ro x (by simp [hx])
      · rw [List.mem_singleton.1 hx]; exact hm.ro (.rdpc (tmPc b K Good enc (plM tm))) (by simp)
    · rcases List.mem_append.1 hx with hx | hx
      · exact It.carry (hm.hold x (by simp [hx])) hc fun _ _ => rfl
      · rw [List.mem_singleton.1 hx]; exact h1
  have hmid : mids (σ1 ++ [.rdpc (tmPc b K Good enc (plM tm))]) = mids (σ1 ++ [.rdpc (mapPc b K id Good (rawM tm))]) := hids.symm
  have hr := h tm rfl G w vals hm2 (ae_ hc _ _ hv)
  rw [hmid]
  exact hr
end
section
variable {α : Type} [DecidableEq α] {m : List (Int × α)} {c : List (α × Nat)} {u v k : α} {w who : Int}
def cget (c : List (α × Nat)) (v : α) : Nat := (aget c v).getD 0
def cnt (m : List (Int × α)) (v : α) : Nat := (m.filter fun p => decide (p.2 = v)).length
structure TInv (m : List (Int × α)) (c : List (α × Nat)) : Prop where
  nd : (m.map (·.1)).Nodup
  num : ∀ v, cget c v = cnt m v
theorem cnt_cons (p : Int × α) (m : List (Int × α)) (v : α) : cnt (p :: m) v = (if p.2 = v then 1 else 0) + cnt m v := by
  unfold cnt
  rw [List.filter_cons]
  by_cases h : p.2 = v
  · simp [h]; omega
  · simp [h]
theorem cnt_le (m : List (Int × α)) (v : α) : cnt m v ≤ m.length := List.length_filter_le _ _
omit [DecidableEq α] in
theorem jR_ (p : Int × α) (m : List (Int × α)) (w : Int) : aget (p :: m) w = if p.1 = w then some p.2 else aget m w := by
  unfold aget
  rw [List.find?_cons]
  by_cases h : p.1 = w <;> simp [h]
theorem jz_ : ∀ {m : List (Int × α)} {w : Int} {v : α}, aget m w = some v → 1 ≤ cnt m v
  | [], w, v, h => by cases h
  | p :: m, w, v, h => by
    rw [jR_] at h
    rw [cnt_cons]
    split at h
    · have := Option.some.inj h
      rw [if_pos this]
      omega
    · have := jz_ h
      omega
omit [DecidableEq α] in
theorem map_none : ∀ {m : List (Int × α)} {w : Int} {k : α}, w ∉ m.map (·.1) → (m.map fun p => if p.1 = w then (w, k) else p) = m
  | [], _, _, _ => rfl
  | p :: m, w, k, h => by
    rw [List.map_cons, List.mem_cons, not_or] at h
    rw [List.map_cons, if_neg (fun e => h.1 e.symm), map_none h.2]
theorem TInv.nil : TInv ([] : List (Int × α)) [] := ⟨by simp, fun v => rfl⟩
theorem TInv.pos (h : TInv m c) (hw : aget m who = some v) : 1 ≤ cget c v := by rw [h.num]; exact jz_ hw
end
end Go.Proofs.YtjclgkddfjbdiaaGreatDoor.A
namespace Go.Proofs.YtjclgkddfjbdiaaGreatDoor
open Go.RowKit
def nameC (c : Nat) : Bool := (decide (97 ≤ c) && decide (c ≤ 122)) || (decide (48 ≤ c) && decide (c ≤ 57)) || decide (c = 45)
def nameB (s : ByteArray) : Bool := s.data.toList.all (fun c => nameC c.toNat) && decide (1 ≤ s.size) && decide (s.size ≤ 16)
section
variable {S : List (World × List Nat)} {σ τ : Blks} {ρ : List Dt} {w : World}
theorem all_at {s : ByteArray} {k : Nat} (h : k < s.size) (hb : nameC (s[k]'h).toNat = false) : s.data.toList.all (fun c => nameC c.toNat) = false := by
  rw [List.all_eq_false]
  refine ⟨s[k]'h, ?_, by rw [hb]; decide⟩
  have : s[k]'h = s.data.toList[k]'(by simpa using h) := rfl
  rw [this]
  exact List.getElem_mem _
theorem all_all {s : ByteArray} (hp : ∀ j (hj : j < s.size), nameC (s[j]'hj).toNat = true) : s.data.toList.all (fun c => nameC c.toNat) = true := by
  rw [List.all_eq_true]
  intro c hc
  obtain ⟨j, hj, rfl⟩ := List.getElem_of_mem hc
  exact hp j (by simpa using hj)
theorem odd_c {r : Nat} (hw : Mem S σ ρ w) : Calls Tryz.prog 153 #[.int .i32 r] w fun e w' => e = .returned (.bool (!nameC r)) ∧ Mem S σ ρ w' := by
  refine au_ [.int .i32 r] Tryz.func153 rfl Tryz.ntmps153 rfl (Mem S σ ρ) hw ?_
  refine c_ (a_ ?_)
  refine d_ (l_ rfl) rfl rfl ?_
  refine g_ (b_ ?_)
  refine c_ (a_ ?_)
  refine d_ (r_ rfl) rfl rfl ?_
  refine d_ (bi_ rfl rfl) rfl rfl ?_
  refine d_ (r_ rfl) rfl rfl ?_
  refine D_ (t := 5) rfl ?_ ?_
  · intro hc5
    iterate 2 refine aD_ rfl rfl ?_
    refine d_ (U_ rfl rfl) rfl rfl ?_
    iterate 2 refine d_ (r_ rfl) rfl rfl ?_
    refine d_ (bi_ rfl rfl) rfl rfl ?_
    refine d_ (r_ rfl) rfl rfl ?_
    refine D_ (t := 12) rfl ?_ ?_
    · intro hc12
      iterate 2 refine aD_ rfl rfl ?_
      refine d_ (U_ rfl rfl) rfl rfl ?_
      refine d_ (U_ rfl rfl) rfl rfl ?_
      iterate 2 refine d_ (r_ rfl) rfl rfl ?_
      refine d_ (dt_ rfl rfl) rfl rfl ?_
      refine d_ (U_ rfl rfl) rfl rfl ?_
      refine d_ (l_ rfl) rfl rfl ?_
      refine g_ (b_ ?_)
      refine o_ ?_
      refine Z_ rfl rfl ?_
      intro w' hw'
      refine ⟨?_, hw'⟩
      congr 2
      rw [Bool.eq_iff_iff]
      simp [nameC]
      omega
    intro hc12
    refine d_ (r_ rfl) rfl rfl ?_
    refine d_ (a1_ rfl rfl) rfl rfl ?_
    refine d_ (aj_ rfl rfl) rfl rfl ?_
    refine d_ (U_ rfl rfl) rfl rfl ?_
    refine d_ (r_ rfl) rfl rfl ?_
    refine D_ (t := 17) rfl ?_ ?_
    · intro hc17
      refine d_ (r_ rfl) rfl rfl ?_
      refine d_ (dt_ rfl rfl) rfl rfl ?_
      refine d_ (U_ rfl rfl) rfl rfl ?_
      refine d_ (l_ rfl) rfl rfl ?_
      refine g_ (b_ ?_)
      refine o_ ?_
      refine Z_ rfl rfl ?_
      intro w' hw'
      refine ⟨?_, hw'⟩
      congr 2
      rw [Bool.eq_iff_iff]
      simp [nameC]
      omega
    intro hc17
    iterate 2 refine aD_ rfl rfl ?_
    refine d_ (aj_ rfl rfl) rfl rfl ?_
    refine d_ (l_ rfl) rfl rfl ?_
    refine g_ (b_ ?_)
    refine o_ ?_
    refine Z_ rfl rfl ?_
    intro w' hw'
    refine ⟨?_, hw'⟩
    congr 2
    rw [Bool.eq_iff_iff]
    simp [nameC]
    omega
  intro hc5
  refine d_ (r_ rfl) rfl rfl ?_
  refine d_ (a1_ rfl rfl) rfl rfl ?_
  refine d_ (aj_ rfl rfl) rfl rfl ?_
  refine d_ (r_ rfl) rfl rfl ?_
  refine D_ (t := 9) rfl ?_ ?_
  rotate_left
  · intro hc9
    iterate 6 refine aD_ rfl rfl ?_
    refine d_ (aj_ rfl rfl) rfl rfl ?_
    refine d_ (r_ rfl) rfl rfl ?_
    iterate 2 refine aD_ rfl rfl ?_
    refine d_ (aj_ rfl rfl) rfl rfl ?_
    refine d_ (l_ rfl) rfl rfl ?_
    refine g_ (b_ ?_)
    refine o_ ?_
    refine Z_ rfl rfl ?_
    intro w' hw'
    refine ⟨?_, hw'⟩
    congr 2
    rw [Bool.eq_iff_iff]
    simp [nameC]
    omega
  intro hc9
  refine d_ (r_ rfl) rfl rfl ?_
  refine d_ (bi_ rfl rfl) rfl rfl ?_
  refine d_ (r_ rfl) rfl rfl ?_
  refine D_ (t := 12) rfl ?_ ?_
  · intro hc12
    iterate 2 refine aD_ rfl rfl ?_
    refine d_ (U_ rfl rfl) rfl rfl ?_
    refine d_ (U_ rfl rfl) rfl rfl ?_
    iterate 2 refine d_ (r_ rfl) rfl rfl ?_
    refine d_ (dt_ rfl rfl) rfl rfl ?_
    refine d_ (U_ rfl rfl) rfl rfl ?_
    refine d_ (l_ rfl) rfl rfl ?_
    refine g_ (b_ ?_)
    refine o_ ?_
    refine Z_ rfl rfl ?_
    intro w' hw'
    refine ⟨?_, hw'⟩
    congr 2
    rw [Bool.eq_iff_iff]
    simp [nameC]
    omega
  intro hc12
  refine d_ (r_ rfl) rfl rfl ?_
  refine d_ (a1_ rfl rfl) rfl rfl ?_
  refine d_ (aj_ rfl rfl) rfl rfl ?_
  refine d_ (U_ rfl rfl) rfl rfl ?_
  refine d_ (r_ rfl) rfl rfl ?_
  refine D_ (t := 17) rfl ?_ ?_
  · intro hc17
    refine d_ (r_ rfl) rfl rfl ?_
    refine d_ (dt_ rfl rfl) rfl rfl ?_
    refine d_ (U_ rfl rfl) rfl rfl ?_
    refine d_ (l_ rfl) rfl rfl ?_
    refine g_ (b_ ?_)
    refine o_ ?_
    refine Z_ rfl rfl ?_
    intro w' hw'
    refine ⟨?_, hw'⟩
    congr 2
    rw [Bool.eq_iff_iff]
    simp [nameC]
    omega
  intro hc17
  iterate 2 refine aD_ rfl rfl ?_
  refine d_ (aj_ rfl rfl) rfl rfl ?_
  refine d_ (l_ rfl) rfl rfl ?_
  refine g_ (b_ ?_)
  refine o_ ?_
  refine Z_ rfl rfl ?_
  intro w' hw'
  refine ⟨?_, hw'⟩
  congr 2
  rw [Bool.eq_iff_iff]
  simp [nameC]
  omega
set_option maxHeartbeats 400000 in
theorem h3_ {s : ByteArray} (hw : Mem S σ ρ w) (_hs : s.size ≤ 16) : Calls Tryz.prog 291 #[.string s, .func (.func 153) #[] #[], .bool true] w fun e w' => ∃ r : Int, e = .returned (.int .i64 r) ∧ (0 ≤ r ↔ s.data.toList.all (fun c => nameC c.toNat) = false) ∧ Mem S σ ρ w' := by
  refine au_ [.string s, .func (.func 153) #[] #[], .bool true] Tryz.func291 rfl Tryz.ntmps291 rfl (Mem S σ ρ) hw ?_
  refine c_ (a_ ?_)
  refine d_ (l_ rfl) rfl rfl ?_
  refine g_ (b_ ?_)
  refine c_ ?_
  refine c_ (a_ ?_)
  refine d_ (r_ rfl) rfl rfl ?_
  refine aT_ (gV_ rfl Tryz.underlying9) rfl rfl ?_
  rintro _ _ ⟨b10, rfl, rfl⟩
  refine g_ (b_ ?_)
  refine w_ ?_
  refine S_ (ι := Nat) (fun k => [(1, .func (.func 153) #[] #[]), (2, .bool true), (10, .pointer (some ⟨b10, 0, none⟩))]) (fun k w' => (k ≤ s.size ∧ ∀ j (hj : j < s.size), j < k → nameC (s[j]'hj).toNat = true) ∧ Mem S (.blk b10 (.stringIter s k) :: σ) ρ w') (fun k => s.size - k) 0 (by exact ⟨rfl, rfl, rfl, trivial⟩) (fun w' hw' => ⟨⟨Nat.zero_le _, fun j hj h => by omega⟩, hw'⟩) ?_
  intro k
  refine dQ_ ?_
  rintro ⟨hk, hp⟩
  by_cases hlt : k < s.size
  · have hd := gH_ s k hlt
    have hc := (s[k]'hlt).toNat_lt
    skip
    refine c_ (a_ ?_)
    refine aT_ (ip_ rfl .here hlt) rfl rfl ?_
    rintro _ _ ⟨rfl, rfl⟩
    refine d_ (bm_ rfl rfl) rfl rfl ?_
    refine g_ (b_ ?_)
    refine c_ ?_
    refine ab_ rfl ?_
    refine s_ ?_
    refine b_ ?_
    refine w_ ?_
    refine c_ (a_ ?_)
    refine d_ (bm_ rfl rfl) rfl rfl ?_
    refine d_ (bm_ rfl rfl) rfl rfl ?_
    iterate 2 refine d_ (l_ rfl) rfl rfl ?_
    refine g_ (b_ ?_)
    refine c_ (a_ ?_)
    iterate 2 refine d_ (r_ rfl) rfl rfl ?_
    refine c9_ rfl (by kernel_rfl) rfl rfl rfl ?_
    intro w hw
    refine (odd_c hw).mono ?_
    rintro _ _ ⟨rfl, hm⟩
    refine ⟨_, _, rfl, hm, ?_⟩
    clear hm hw w
    refine d_ (r_ rfl) rfl rfl ?_
    refine d_ (jX_ rfl rfl (by kernel_rfl)) rfl rfl ?_
    refine g_ (b_ ?_)
    refine ay_ rfl ?_ ?_
    rotate_left
    · intro hodd
      refine s_ ?_
      refine A_ ?_
      simp only [beq_true, Bool.not_eq_false'] at hodd
      have h128 : (s[k]'hlt).toNat < 128 := by
        rcases Nat.lt_or_ge (s[k]'hlt).toNat 128 with h | h
        · exact h
        · have h2 := hd (by omega)
          simp only [nameC, Bool.or_eq_true, Bool.and_eq_true, decide_eq_true_eq] at hodd
          omega
      have e1 := decode_ascii s k hlt h128
      exact J_ (k + 1) (by omega) (by exact ⟨rfl, rfl, rfl, trivial⟩) (fun w' hw' => ⟨⟨hlt, fun j hj h => by
        rcases Nat.lt_or_ge j k with h2 | h2
        · exact hp j hj h2
        · obtain rfl : j = k := by omega
          rw [e1] at hodd; exact hodd⟩, by rw [e1] at hw'; exact hw'⟩)
    intro hodd
    refine c_ (a_ ?_)
    refine d_ (r_ rfl) rfl rfl ?_
    refine d_ (l_ rfl) rfl rfl ?_
    refine g_ (b_ ?_)
    refine o_ ?_
    refine aF_ ?_
    refine k_ (by intro h; cases h) ?_
    refine aF_ ?_
    refine k_ (by intro h; cases h) ?_
    refine Z_ rfl rfl ?_
    intro w' hw'
    refine ⟨_, rfl, ?_, hw'.sub (fun _ h => h) (List.sublist_cons_self _ _)⟩
    rw [all_at hlt (by
  simp only [beq_true, Bool.not_eq_true'] at hodd
  rcases Nat.lt_or_ge (s[k]'hlt).toNat 128 with h | h
  · rw [decode_ascii s k hlt h] at hodd; exact hodd
  · simp only [nameC, Bool.or_eq_false_iff, Bool.and_eq_false_iff, decide_eq_false_iff_not]; omega)]
    simp
  · skip
    refine c_ (a_ ?_)
    refine d_ (gQ_ rfl List.mem_cons_self hlt) rfl rfl ?_
    refine d_ (bm_ rfl rfl) rfl rfl ?_
    refine g_ (b_ ?_)
    refine c_ ?_
    refine I_ rfl ?_
    refine O_ ?_
    refine k_ (by intro h; cases h) ?_
    refine k_ (by intro h; cases h) ?_
    refine N_ ?_
    refine b_ ?_
    refine c_ (a_ ?_)
    refine d_ (l_ rfl) rfl rfl ?_
    refine g_ (b_ ?_)
    refine o_ ?_
    refine Z_ rfl rfl ?_
    intro w' hw'
    refine ⟨_, rfl, ?_, hw'.sub (fun _ h => h) (List.sublist_cons_self _ _)⟩
    rw [all_all fun j hj => hp j hj (by omega)]
    simp
theorem index_c {s : ByteArray} (hw : Mem S σ ρ w) (hs : s.size ≤ 16) : Calls Tryz.prog 210 #[.string s, .func (.func 153) #[] #[]] w fun e w' => ∃ r : Int, e = .returned (.int .i64 r) ∧ (0 ≤ r ↔ s.data.toList.all (fun c => nameC c.toNat) = false) ∧ Mem S σ ρ w' := by
  refine au_ [.string s, .func (.func 153) #[] #[]] Tryz.func210 rfl Tryz.ntmps210 rfl (Mem S σ ρ) hw ?_
  refine c_ (a_ ?_)
  refine d_ (l_ rfl) rfl rfl ?_
  refine g_ (b_ ?_)
  refine c_ (a_ ?_)
  iterate 2 refine d_ (r_ rfl) rfl rfl ?_
  refine m_ (by kernel_rfl) rfl rfl rfl ?_
  intro w hw
  refine (h3_ hw hs).mono ?_; rintro _ _ ⟨r, rfl, hr, hm⟩; refine ⟨_, _, rfl, hm, ?_⟩; clear hm hw w
  refine d_ (l_ rfl) rfl rfl ?_
  refine g_ (b_ ?_)
  refine o_ ?_
  refine Z_ rfl rfl ?_
  intro w' hw'
  exact ⟨_, rfl, hr, hw'⟩
theorem h7_ {s : ByteArray} (hw : Mem S σ ρ w) (hs : s.size ≤ 16) : Calls Tryz.prog 154 #[.string s, .func (.func 153) #[] #[]] w fun e w' => e = .returned (.bool (!s.data.toList.all (fun c => nameC c.toNat))) ∧ Mem S σ ρ w' := by
  refine au_ [.string s, .func (.func 153) #[] #[]] Tryz.func154 rfl Tryz.ntmps154 rfl (Mem S σ ρ) hw ?_
  refine c_ (a_ ?_)
  refine d_ (l_ rfl) rfl rfl ?_
  refine g_ (b_ ?_)
  refine c_ (a_ ?_)
  iterate 2 refine d_ (r_ rfl) rfl rfl ?_
  refine m_ (by kernel_rfl) rfl rfl rfl ?_
  intro w hw
  refine (index_c hw hs).mono ?_; rintro _ _ ⟨r, rfl, hr, hm⟩; refine ⟨_, _, rfl, hm, ?_⟩; clear hm hw w
  refine d_ (du_ rfl rfl) rfl rfl ?_
  refine d_ (l_ rfl) rfl rfl ?_
  refine g_ (b_ ?_)
  refine o_ ?_
  refine Z_ rfl rfl ?_
  intro w' hw'
  refine ⟨?_, hw'⟩
  congr 2
  rw [Bool.eq_iff_iff, decide_eq_true_eq, hr]
  simp
theorem isName_c {s : ByteArray} (hw : Mem S σ ρ w) : Calls Tryz.prog 105 #[.string s] w fun e w' => e = .returned (.bool (nameB s)) ∧ Mem S σ ρ w' := by
  have h0 : (s = ⟨#[]⟩) ↔ s.size = 0 := by
    constructor
    · rintro rfl; rfl
    · intro h
      obtain ⟨a⟩ := s
      congr 1
      exact Array.eq_empty_of_size_eq_zero h
  refine au_ [.string s] Tryz.func105 rfl Tryz.ntmps105 rfl (Mem S σ ρ) hw ?_
  refine c_ (a_ ?_)
  refine d_ (l_ rfl) rfl rfl ?_
  refine g_ (b_ ?_)
  refine c_ (a_ ?_)
  refine d_ (l_ rfl) rfl rfl ?_
  refine g_ (b_ ?_)
  refine c_ (a_ ?_)
  refine d_ (r_ rfl) rfl rfl ?_
  refine d_ (jU_ rfl rfl) rfl rfl ?_
  refine d_ (r_ rfl) rfl rfl ?_
  refine D_ (t := 6) rfl ?_ ?_
  rotate_left
  · intro hc6
    iterate 3 refine aD_ rfl rfl ?_
    refine d_ (aj_ rfl rfl) rfl rfl ?_
    refine d_ (r_ rfl) rfl rfl ?_
    iterate 4 refine aD_ rfl rfl ?_
    refine d_ (aj_ rfl rfl) rfl rfl ?_
    refine d_ (l_ rfl) rfl rfl ?_
    refine g_ (b_ ?_)
    refine o_ ?_
    refine Z_ rfl rfl ?_
    intro w' hw'
    refine ⟨?_, hw'⟩
    congr 2
    unfold nameB
    rw [Ne, h0] at hc6
    rw [Bool.eq_iff_iff]
    (simp; omega)
  intro hc6
  refine d_ (r_ rfl) rfl rfl ?_
  refine d_ (ew_ rfl Tryz.underlying9) rfl rfl ?_
  refine d_ (gR_ rfl rfl) rfl rfl ?_
  refine d_ (U_ rfl rfl) rfl rfl ?_
  refine d_ (r_ rfl) rfl rfl ?_
  refine D_ (t := 11) rfl ?_ ?_
  rotate_left
  · intro hc11
    iterate 4 refine aD_ rfl rfl ?_
    refine d_ (aj_ rfl rfl) rfl rfl ?_
    refine d_ (l_ rfl) rfl rfl ?_
    refine g_ (b_ ?_)
    refine o_ ?_
    refine Z_ rfl rfl ?_
    intro w' hw'
    refine ⟨?_, hw'⟩
    congr 2
    unfold nameB
    rw [Ne, h0] at hc6
    rw [Bool.eq_iff_iff]
    (simp; omega)
  intro hc11
  iterate 2 refine d_ (r_ rfl) rfl rfl ?_
  refine m_ (by kernel_rfl) rfl rfl rfl ?_
  intro w hw
  refine (h7_ hw (by omega)).mono ?_; rintro _ _ ⟨rfl, hm⟩; refine ⟨_, _, rfl, hm, ?_⟩; clear hm hw w
  refine d_ (cs_ rfl) rfl rfl ?_
  refine d_ (U_ rfl rfl) rfl rfl ?_
  refine d_ (l_ rfl) rfl rfl ?_
  refine g_ (b_ ?_)
  refine o_ ?_
  refine Z_ rfl rfl ?_
  intro w' hw'
  refine ⟨?_, hw'⟩
  congr 2
  unfold nameB
  rw [Ne, h0] at hc6
  rw [Bool.eq_iff_iff]
  first
    | (simp; omega)
    | (have h1 : 1 ≤ s.size := by omega
       have h2 : s.size ≤ 16 := by omega
       simp [h1, h2])
end
end Go.Proofs.YtjclgkddfjbdiaaGreatDoor
