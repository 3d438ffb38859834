/-
  The law BundleMerge returns true for every input. (part 6 of 6.)
-/
import Derived.Test.YtnllccjmbijjlaaGreatA5
import Derived.RowKit
import Derived.KernelRfl
import Derived.Below
import Derived.ChangeArms
import Derived.SliceStrings
import Derived.Test.YtnllccjmbijjlaaGreatRows
import Derived.ProofKit
import Derived.OpenShut
import Derived.ChangeOld
import Derived.Carry
set_option linter.unusedVariables false
set_option linter.unusedSimpArgs false
/-
  The functions of the program compute what is printed of them.
-/
namespace Go.Proofs.YtnllccjmbijjlaaGreat.Vm
open Go.Proofs
def bundle_Check_ns : List (Nat × Nrm) := [(3, ⟨[1], [], [], [], []⟩), (11, ⟨[1, 31, 32, 33], [], [], [], []⟩), (18, ⟨[1, 31, 32, 33], [], [], [], []⟩), (19, ⟨[], [], [], [], []⟩), (30, ⟨[1, 31, 32, 33, 37, 38, 39], [], [], [], []⟩), (62, ⟨[51, 52, 53], [], [], [], []⟩)]
def bundle_Check_L : Lk := ⟨[], [(18, ⟨[(1, .c (.c (.ptr 33024 0))), (31, .c (xo 40704)), (32, .i), (33, .c x64)], [(33024, .box [(xl (.str .nil)), (xl (.str .nil)), (xl (.str (.str .nil)))]), (40704, .arr 22 false (.sl 9 (.str .nil) .nil))]⟩, [(0, ⟨[(1, .c (.c (.ptr 33024 0)))], [(33024, .box [(xl (.str .nil)), (xl (.str .nil)), (xl (.str (.str .nil)))])]⟩)]), (30, ⟨[(1, .c (.c (.ptr 33024 0))), (31, .c (xo 40704)), (32, .i), (33, .i), (37, .i), (38, .i), (39, .c x64)], [(33024, .box [(xl (.str .nil)), (xl (.str .nil)), (xl (.str (.str .nil)))]), (40704, .arr 22 false (.sl 9 (.str .nil) .nil))]⟩, [(2, ⟨[(1, .c (.c (.ptr 33024 0))), (31, .c (xo 40704)), (32, .i), (33, .i)], [(33024, .box [(xl (.str .nil)), (xl (.str .nil)), (xl (.str (.str .nil)))]), (40704, .arr 22 false (.sl 9 (.str .nil) .nil))]⟩)]), (62, ⟨[(51, .i), (52, .i), (53, .c x64)], []⟩, [(4, ⟨[], []⟩)])]⟩
noncomputable def bundle_Check_S (N : Nat) : Sig := .of [Sq1] [.cell false (.int .i64)] (fun a => bundle_Check N a)
theorem bundle_Check_spec (N : Nat) : Spec Tryz.prog 18 (bundle_Check_S N) := spec_of_exe (C := ctx Tryz.prog [(33, bundle_checkOne_S N), (34, bundle_checkPair_S N)] bundle_Check_ns) (L := bundle_Check_L) (fn := Tryz.f18) (N := N) (ctx_ok ⟨bundle_checkOne_spec N, bundle_checkPair_spec N, trivial⟩) (by kernel_rfl) (by kernel_rfl) (fun a => by kernel_rfl)

def ref14_checkNames_ns : List (Nat × Nrm) := [(3, ⟨[], [], [], [], []⟩), (18, ⟨[9, 10, 11], [], [], [], []⟩)]
def ref14_checkNames_L : Lk := ⟨[], [(18, ⟨[(9, .i), (10, .i), (11, .c x64)], []⟩, [(0, ⟨[], []⟩)])]⟩
noncomputable def ref14_checkNames_S (N : Nat) : Sig := .of [.cell false (.sl 117 Tq2)] [.cell false (.int .i64)] (fun a => ref14_checkNames N a)
theorem ref14_checkNames_spec (N : Nat) : Spec Tryz.prog 118 (ref14_checkNames_S N) := spec_of_exe (C := ctx Tryz.prog [(142, ref07_CheckGeneral_S N)] ref14_checkNames_ns) (L := ref14_checkNames_L) (fn := Tryz.f118) (N := N) (ctx_ok ⟨ref07_CheckGeneral_spec N, trivial⟩) (by kernel_rfl) (by kernel_rfl) (fun a => by kernel_rfl)

noncomputable def ref07_MatchName_S (N : Nat) : Sig := .of [Sq7, Sq7] [.cell false .bool] (fun a => ref07_MatchName N a.1 a.2)
theorem ref07_MatchName_spec (N : Nat) : Spec Tryz.prog 70 (ref07_MatchName_S N) := spec_of_exe (C := ctx Tryz.prog [(103, ref07_WithinName_S N)] []) (L := ⟨[], []⟩) (fn := Tryz.f70) (N := N) (ctx_ok ⟨ref07_WithinName_spec N, trivial⟩) (by kernel_rfl) (by kernel_rfl) (fun a => by kernel_rfl)

noncomputable def ref07_EncodeGeneral_S (N : Nat) : Sig := .of [Sq9, .cell false .bool] [.cell false .str, .cell false (.int .i64)] (fun a => ref07_EncodeGeneral N a.1 a.2)
theorem ref07_EncodeGeneral_spec (N : Nat) : Spec Tryz.prog 143 (ref07_EncodeGeneral_S N) := spec_of_exe (C := ctx Tryz.prog [(142, ref07_CheckGeneral_S N), (60, ref07_EncodeName_S N), (74, ref07_Wrap_S N)] []) (L := ⟨[], []⟩) (fn := Tryz.f143) (N := N) (ctx_ok ⟨ref07_CheckGeneral_spec N, ref07_EncodeName_spec N, ref07_Wrap_spec N, trivial⟩) (by kernel_rfl) (by kernel_rfl) (fun a => by kernel_rfl)

noncomputable def ref14_wrapped_S (N : Nat) : Sig := .of [.cell false (.int .i64), .cell false (.sl 158 Tq5)] [.cell false .str, .cell false (.int .i64)] (fun a => ref14_wrapped N a.1 a.2)
theorem ref14_wrapped_spec (N : Nat) : Spec Tryz.prog 65 (ref14_wrapped_S N) := spec_of_exe (C := ctx Tryz.prog [(96, ref14_EncodeExtensions_S N), (63, ref07_Fit_S N)] []) (L := ⟨[], []⟩) (fn := Tryz.f65) (N := N) (ctx_ok ⟨ref14_EncodeExtensions_spec N, ref07_Fit_spec N, trivial⟩) (by kernel_rfl) (by kernel_rfl) (fun a => by kernel_rfl)

def ref07_CheckSubtrees_ns : List (Nat × Nrm) := [(3, ⟨[], [], [], [], []⟩), (26, ⟨[31, 32, 33], [], [], [], []⟩)]
def ref07_CheckSubtrees_L : Lk := ⟨[], [(26, ⟨[(31, .c (xo 40704)), (32, .i), (33, .c x64)], [(40704, .arr 117 false Tq2)]⟩, [(0, ⟨[], []⟩)])]⟩
noncomputable def ref07_CheckSubtrees_S (N : Nat) : Sig := .of [Sq16] [.cell false (.int .i64)] (fun a => ref07_CheckSubtrees N a)
theorem ref07_CheckSubtrees_spec (N : Nat) : Spec Tryz.prog 131 (ref07_CheckSubtrees_S N) := spec_of_exe (C := ctx Tryz.prog [(142, ref07_CheckGeneral_S N)] ref07_CheckSubtrees_ns) (L := ref07_CheckSubtrees_L) (fn := Tryz.f131) (N := N) (ctx_ok ⟨ref07_CheckGeneral_spec N, trivial⟩) (by kernel_rfl) (by kernel_rfl) (fun a => by kernel_rfl)

def made_Cert_ns : List (Nat × Nrm) := [(17, ⟨[2, 3], [], [], [], []⟩)]
def made_Cert_L : Lk := ⟨[(17, ⟨[(2, .c (.c (.ptr 33280 0))), (3, .c (.c (.ptr 33536 0)))], [(0, .box [(xl (.int .i64 .nil)), x64]), (33280, .box [(.c (.str ([] : Bs))), (.c (.str ([] : Bs))), (.c (.int .i64 0)), (xo 33284), (xo 33285), (.c (.int .i64 0)), (.c (.int .i64 0)), (.c (.int .i64 0)), (.c (.str ([] : Bs))), (.c (.str ([] : Bs))), (.c (.bool false)), (.c (.bool false)), (.c (.int .i64 0)), (.c (.int .i64 0)), (xo 33295), (xo 33296), (xo 33297), (.c (.int .i64 0)), (.c (.int .i64 0)), (.c (.int .i64 0)), (xo 33301), (.c (.bool false)), (xo 33303), (xo 33304), (.c (.str ([] : Bs))), (.c (.str ([] : Bs))), (xo 33307), (xo 33308), (xo 33309), (.c (.str ([] : Bs)))]), (33284, .arr0 145 false (.sl 144 Tq1 .nil)), (33285, .arr0 145 false (.sl 144 Tq1 .nil)), (33295, .arr0 9 false (.str .nil)), (33296, .arr0 9 false (.str .nil)), (33297, .arr0 181 false (.str (.str .nil))), (33301, .arr0 117 false Tq2), (33303, .arr0 117 false Tq2), (33304, .arr0 117 false Tq2), (33307, .arr0 147 false Tq3), (33308, .arr0 147 false Tq3), (33309, .arr0 158 false Tq5), (33536, .box [(.c (.str ([] : Bs))), (.c (.str ([] : Bs))), x64, (xl (.sl 144 Tq1 .nil)), (xl (.sl 144 Tq1 .nil)), x64, x64, x64, xs, xs, xb, xb, x64, x64, (xl (.str .nil)), (xl (.str .nil)), (xl (.str (.str .nil))), x64, x64, x64, (xl Tq2), xb, (xl Tq2), (xl Tq2), xs, xs, (xl Tq3), (xl Tq3), (xl Tq5), (.c (.str ([] : Bs)))])]⟩)], []⟩
noncomputable def made_Cert_S (N : Nat) : Sig := .of [Sq6] [Sq18] (fun a => made_Cert N a)
theorem made_Cert_spec (N : Nat) : Spec Tryz.prog 32 (made_Cert_S N) := spec_of_exe (C := ctx Tryz.prog [(14, made_Deck_Next_S N), (44, made_Authority_S N), (50, made_Name_S N), (45, made_Time_S N), (51, made_Key_S N), (52, made_Info_S N)] made_Cert_ns) (L := made_Cert_L) (fn := Tryz.f32) (N := N) (ctx_ok ⟨made_Deck_Next_spec N, made_Authority_spec N, made_Name_spec N, made_Time_spec N, made_Key_spec N, made_Info_spec N, trivial⟩) (by kernel_rfl) (by kernel_rfl) (fun a => by kernel_rfl)

end Go.Proofs.YtnllccjmbijjlaaGreat.Vm

/-
  The functions of the program compute what is printed of them.
-/
namespace Go.Proofs.YtnllccjmbijjlaaGreat.Vm
open Go.Proofs
def bundle_Merge_ns : List (Nat × Nrm) := [(3, ⟨[2, 4], [], [(some 33792, 0, (.str .nil)), (some 33792, 1, (.str .nil))], [(33795, 1012288), (1000000, 1012288)], []⟩), (11, ⟨[2, 4, 5, 12, 13, 14], [], [], [(33795, 1008192), (1004096, 1008192)], []⟩), (18, ⟨[2, 4, 5, 12, 13, 14], [], [(some 33792, 0, (.str .nil)), (some 33792, 1, (.str .nil))], [(33795, 1000000), (1008192, 1000000)], []⟩), (38, ⟨[2, 4, 5, 12, 13, 14, 31, 32, 33], [], [], [(33795, 1004096), (44800, 1004096), (1000000, 1004096)], []⟩)]
def bundle_Merge_L : Lk := ⟨[], [(18, ⟨[(2, .c (.c (.ptr 33280 0))), (4, .c (.c (.ptr 33792 0))), (5, .c (xo 35584)), (12, .i), (13, .i), (14, .c x64)], [(33280, .box [(xo 33281), (xo 33282), (xo 33283)]), (33281, .arr0 9 false (.str .nil)), (33282, .arr0 9 false (.str .nil)), (33283, .arr0 41 false (.str (.str .nil))), (33792, .box [(xl (.str .nil)), (xl (.str .nil)), (xo 1000000)]), (35584, .mp (.str (.str .nil)) (.bool .nil)), (1000000, .arr 41 false (.str (.str .nil)))]⟩, [(0, ⟨[(2, .c (.c (.ptr 33280 0))), (4, .c (.c (.ptr 33792 0)))], [(33280, .box [(xo 33281), (xo 33282), (xo 33283)]), (33281, .arr0 9 false (.str .nil)), (33282, .arr0 9 false (.str .nil)), (33283, .arr0 41 false (.str (.str .nil))), (33792, .box [(xl (.str .nil)), (xl (.str .nil)), (xo 1012288)]), (1012288, .arr 41 false (.str (.str .nil)))]⟩)]), (38, ⟨[(2, .c (.c (.ptr 33280 0))), (4, .c (.c (.ptr 33792 0))), (5, .c (xo 35584)), (12, .i), (13, .i), (14, .i), (31, .i), (32, .i), (33, .c x64)], [(33280, .box [(xo 33281), (xo 33282), (xo 33283)]), (33281, .arr0 9 false (.str .nil)), (33282, .arr0 9 false (.str .nil)), (33283, .arr0 41 false (.str (.str .nil))), (33792, .box [(xl (.str .nil)), (xl (.str .nil)), (xo 1004096)]), (35584, .mp (.str (.str .nil)) (.bool .nil)), (1004096, .arr 41 false (.str (.str .nil)))]⟩, [(2, ⟨[(2, .c (.c (.ptr 33280 0))), (4, .c (.c (.ptr 33792 0))), (5, .c (xo 35584)), (12, .i), (13, .i), (14, .i)], [(33280, .box [(xo 33281), (xo 33282), (xo 33283)]), (33281, .arr0 9 false (.str .nil)), (33282, .arr0 9 false (.str .nil)), (33283, .arr0 41 false (.str (.str .nil))), (33792, .box [(xl (.str .nil)), (xl (.str .nil)), (xo 1008192)]), (35584, .mp (.str (.str .nil)) (.bool .nil)), (1008192, .arr 41 false (.str (.str .nil)))]⟩)])]⟩
noncomputable def bundle_Merge_S (N : Nat) : Sig := .of [.cell false (.sl 25 Tq6)] [Sq1, .cell false (.int .i64)] (fun a => bundle_Merge N a)
theorem bundle_Merge_spec (N : Nat) : Spec Tryz.prog 8 (bundle_Merge_S N) := spec_of_exe (C := ctx Tryz.prog [(16, bundle_distinct_S N), (17, bundle_seen_first_S N), (18, bundle_Check_S N)] bundle_Merge_ns) (L := bundle_Merge_L) (fn := Tryz.f8) (N := N) (ctx_ok ⟨bundle_distinct_spec N, bundle_seen_first_spec N, bundle_Check_spec N, trivial⟩) (by kernel_rfl) (by kernel_rfl) (fun a => by kernel_rfl)

end Go.Proofs.YtnllccjmbijjlaaGreat.Vm

/-
  The functions of the program compute what is printed of them.
-/
namespace Go.Proofs.YtnllccjmbijjlaaGreat.Vm
open Go.Proofs
def bundle_Encode_ns : List (Nat × Nrm) := [(3, ⟨[1, 5, 6], [([6], 9, (.str .nil), 1004096)], [], [(1000000, 1004096)], [1004096]⟩), (30, ⟨[1, 5, 6, 18, 19, 20], [([6], 9, (.str .nil), 1000000)], [], [(42752, 1000000)], []⟩)]
def bundle_Encode_L : Lk := ⟨[], [(30, ⟨[(1, .c (.c (.ptr 33024 0))), (5, .c (.c (.ptr 36864 0))), (6, .c (xo 1000000)), (18, .i), (19, .i), (20, .c x64)], [(33024, .box [(xl (.str .nil)), (xl (.str .nil)), (xl (.str (.str .nil)))]), (36864, .box [xb]), (1000000, .arr 9 false (.str .nil))]⟩, [(0, ⟨[(1, .c (.c (.ptr 33024 0))), (5, .c (.c (.ptr 36864 0))), (6, .c (xo 1004096))], [(33024, .box [(xl (.str .nil)), (xl (.str .nil)), (xl (.str (.str .nil)))]), (36864, .box [xb]), (1004096, .arr 9 true (.str .nil))]⟩)])]⟩
noncomputable def bundle_Encode_S (N : Nat) : Sig := .of [Sq1] [.cell false .str, .cell false (.int .i64)] (fun a => bundle_Encode N a)
theorem bundle_Encode_spec (N : Nat) : Spec Tryz.prog 12 (bundle_Encode_S N) := spec_of_exe (C := ctx Tryz.prog [(18, bundle_Check_S N), (23, bundle_part_S N), (22, der_Writer_Seq_S N), (24, der_Writer_Bad_S N)] bundle_Encode_ns) (L := bundle_Encode_L) (fn := Tryz.f12) (N := N) (ctx_ok ⟨bundle_Check_spec N, bundle_part_spec N, der_Writer_Seq_spec N, der_Writer_Bad_spec N, trivial⟩) (by kernel_rfl) (by kernel_rfl) (fun a => by kernel_rfl)

def bundle_Decode_ns : List (Nat × Nrm) := [(3, ⟨[2, 4, 5, 6], [], [], [(34051, 1004096), (1000000, 1004096)], []⟩), (62, ⟨[2, 4, 5, 6, 53, 54, 55], [], [], [(34051, 1000000), (51200, 1000000)], []⟩)]
def bundle_Decode_L : Lk := ⟨[], [(62, ⟨[(2, .c (.c (.ptr 33280 0))), (4, .c (.c (.ptr 33792 0))), (5, .c (.c (.ptr 34048 0))), (6, .c (.c (.ptr 37120 0))), (53, .i), (54, .i), (55, .c x64)], [(33280, .box [(xo 33281), (xo 33282), (xo 33283)]), (33281, .arr0 9 false (.str .nil)), (33282, .arr0 9 false (.str .nil)), (33283, .arr0 41 false (.str (.str .nil))), (33792, .box [(xo 33793), (xo 33794), (xo 33795)]), (33793, .arr0 9 false (.str .nil)), (33794, .arr0 9 false (.str .nil)), (33795, .arr0 41 false (.str (.str .nil))), (34048, .box [(xl (.str .nil)), (xl (.str .nil)), (xo 1000000)]), (37120, .box [(xl Tq0)]), (1000000, .arr 41 false (.str (.str .nil)))]⟩, [(0, ⟨[(2, .c (.c (.ptr 33280 0))), (4, .c (.c (.ptr 33792 0))), (5, .c (.c (.ptr 34048 0))), (6, .c (.c (.ptr 37120 0)))], [(33280, .box [(xo 33281), (xo 33282), (xo 33283)]), (33281, .arr0 9 false (.str .nil)), (33282, .arr0 9 false (.str .nil)), (33283, .arr0 41 false (.str (.str .nil))), (33792, .box [(xo 33793), (xo 33794), (xo 33795)]), (33793, .arr0 9 false (.str .nil)), (33794, .arr0 9 false (.str .nil)), (33795, .arr0 41 false (.str (.str .nil))), (34048, .box [(xl (.str .nil)), (xl (.str .nil)), (xo 1004096)]), (37120, .box [(xl Tq0)]), (1004096, .arr 41 false (.str (.str .nil)))]⟩)])]⟩
noncomputable def bundle_Decode_S (N : Nat) : Sig := .of [.cell false .str] [Sq1, .cell false (.int .i64)] (fun a => bundle_Decode N a)
theorem bundle_Decode_spec (N : Nat) : Spec Tryz.prog 13 (bundle_Decode_S N) := spec_of_exe (C := ctx Tryz.prog [(26, bundle_decodePart_S N), (27, bundle_decodePair_S N), (28, der_Reader_Done_S N), (18, bundle_Check_S N)] bundle_Decode_ns [(25, der_Open_A N)]) (L := bundle_Decode_L) (fn := Tryz.f13) (N := N) (ctx_ok ⟨bundle_decodePart_spec N, bundle_decodePair_spec N, der_Reader_Done_spec N, bundle_Check_spec N, trivial⟩ ⟨der_Open_alt N, trivial⟩) (by kernel_rfl) (by kernel_rfl) (fun a => by kernel_rfl)

noncomputable def ref14_checkScope_S (N : Nat) : Sig := .of [Sq10] [.cell false (.int .i64)] (fun a => ref14_checkScope N a)
theorem ref14_checkScope_spec (N : Nat) : Spec Tryz.prog 87 (ref14_checkScope_S N) := spec_of_exe (C := ctx Tryz.prog [(117, ref14_zeroScope_S N), (118, ref14_checkNames_S N)] []) (L := ⟨[], []⟩) (fn := Tryz.f87) (N := N) (ctx_ok ⟨ref14_zeroScope_spec N, ref14_checkNames_spec N, trivial⟩) (by kernel_rfl) (by kernel_rfl) (fun a => by kernel_rfl)

def ref14_CheckPoints_ns : List (Nat × Nrm) := [(3, ⟨[], [], [], [], []⟩), (18, ⟨[10, 11, 12], [], [], [], []⟩)]
def ref14_CheckPoints_L : Lk := ⟨[], [(18, ⟨[(10, .i), (11, .i), (12, .c x64)], []⟩, [(0, ⟨[], []⟩)])]⟩
noncomputable def ref14_CheckPoints_S (N : Nat) : Sig := .of [.cell false (.sl 147 Tq3)] [.cell false (.int .i64)] (fun a => ref14_CheckPoints N a)
theorem ref14_CheckPoints_spec (N : Nat) : Spec Tryz.prog 88 (ref14_CheckPoints_S N) := spec_of_exe (C := ctx Tryz.prog [(118, ref14_checkNames_S N), (86, ref07_CheckName_S N)] ref14_CheckPoints_ns) (L := ref14_CheckPoints_L) (fn := Tryz.f88) (N := N) (ctx_ok ⟨ref14_checkNames_spec N, ref07_CheckName_spec N, trivial⟩) (by kernel_rfl) (by kernel_rfl) (fun a => by kernel_rfl)

def ref14_checkEntry_ns : List (Nat × Nrm) := [(3, ⟨[], [], [], [], []⟩), (66, ⟨[1, 2, 5, 7], [], [], [], []⟩)]
def ref14_checkEntry_L : Lk := ⟨[], [(66, ⟨[(1, .i), (2, .c (.c (.ptr 33280 0))), (5, .c (.c (.ptr 34048 0))), (7, .c x64)], [(33280, .box [xs, xs, (xl (.sl 144 Tq1 .nil)), x64, x64, x64, x64, xs, xb, (xl Tq2), xb, xb, x64, xb, (xl Tq3), (xl Tq4), xs]), (34048, .box [x64, x64, x64, x64, (xl (.sl 144 Tq1 .nil))])]⟩, [(0, ⟨[], []⟩)])]⟩
noncomputable def ref14_checkEntry_S (N : Nat) : Sig := .of [Sq10, .cell false (.int .i64)] [.cell false (.int .i64)] (fun a => ref14_checkEntry N a.1 a.2)
theorem ref14_checkEntry_spec (N : Nat) : Spec Tryz.prog 89 (ref14_checkEntry_S N) := spec_of_exe (C := ctx Tryz.prog [(119, ref14_reason_S N), (86, ref07_CheckName_S N), (70, ref07_MatchName_S N)] ref14_checkEntry_ns) (L := ref14_checkEntry_L) (fn := Tryz.f89) (N := N) (ctx_ok ⟨ref14_reason_spec N, ref07_CheckName_spec N, ref07_MatchName_spec N, trivial⟩) (by kernel_rfl) (by kernel_rfl) (fun a => by kernel_rfl)

def ref07_EncodeList_ns : List (Nat × Nrm) := [(3, ⟨[4], [], [], [], []⟩), (30, ⟨[4, 15, 16, 17], [], [], [], []⟩)]
def ref07_EncodeList_L : Lk := ⟨[], [(30, ⟨[(4, .c xs), (15, .i), (16, .i), (17, .c x64)], []⟩, [(0, ⟨[(4, .c xs)], []⟩)])]⟩
noncomputable def ref07_EncodeList_S (N : Nat) : Sig := .of [.cell false (.sl 117 Tq2)] [.cell false .str, .cell false (.int .i64)] (fun a => ref07_EncodeList N a)
theorem ref07_EncodeList_spec (N : Nat) : Spec Tryz.prog 122 (ref07_EncodeList_S N) := spec_of_exe (C := ctx Tryz.prog [(143, ref07_EncodeGeneral_S N)] ref07_EncodeList_ns) (L := ref07_EncodeList_L) (fn := Tryz.f122) (N := N) (ctx_ok ⟨ref07_EncodeGeneral_spec N, trivial⟩) (by kernel_rfl) (by kernel_rfl) (fun a => by kernel_rfl)

def ref14_FindEntry_ns : List (Nat × Nrm) := [(3, ⟨[6], [], [], [], []⟩), (10, ⟨[2, 4, 6, 11, 12, 13], [], [], [], []⟩)]
def ref14_FindEntry_L : Lk := ⟨[], [(10, ⟨[(2, .i), (4, .c (.c (.ptr 33792 0))), (6, .c (.c (.ptr 34304 0))), (11, .i), (12, .i), (13, .c x64)], [(33792, .box [(xl (.sl 144 Tq1 .nil))]), (34304, .box [(.c (.int .i64 0)), (.c (.int .i64 0)), (.c (.int .i64 0)), (.c (.int .i64 0)), (xo 34309)]), (34309, .arr0 145 false (.sl 144 Tq1 .nil))]⟩, [(0, ⟨[(6, .c (.c (.ptr 34304 0)))], [(34304, .box [(.c (.int .i64 0)), (.c (.int .i64 0)), (.c (.int .i64 0)), (.c (.int .i64 0)), (xo 34309)]), (34309, .arr0 145 false (.sl 144 Tq1 .nil))]⟩)])]⟩
noncomputable def ref14_FindEntry_S (N : Nat) : Sig := .of [Sq10, Sq7, .cell false (.int .i64)] [Sq14, .cell false .bool] (fun a => ref14_FindEntry N a.1 a.2.1 a.2.2)
theorem ref14_FindEntry_spec (N : Nat) : Spec Tryz.prog 48 (ref14_FindEntry_S N) := spec_of_exe (C := ctx Tryz.prog [(70, ref07_MatchName_S N)] ref14_FindEntry_ns) (L := ref14_FindEntry_L) (fn := Tryz.f48) (N := N) (ctx_ok ⟨ref07_MatchName_spec N, trivial⟩) (by kernel_rfl) (by kernel_rfl) (fun a => by kernel_rfl)

def ref07_part_ns : List (Nat × Nrm) := [(3, ⟨[0, 6], [], [], [], []⟩), (22, ⟨[0, 6, 14, 15, 16], [], [], [], []⟩)]
def ref07_part_L : Lk := ⟨[], [(22, ⟨[(0, .i), (6, .c xs), (14, .i), (15, .i), (16, .c x64)], []⟩, [(0, ⟨[(0, .i), (6, .c xs)], []⟩)])]⟩
noncomputable def ref07_part_S (N : Nat) : Sig := .of [.cell false (.int .i64), .cell false (.sl 117 Tq2)] [.cell false .str, .cell false (.int .i64)] (fun a => ref07_part N a.1 a.2)
theorem ref07_part_spec (N : Nat) : Spec Tryz.prog 148 (ref07_part_S N) := spec_of_exe (C := ctx Tryz.prog [(143, ref07_EncodeGeneral_S N), (74, ref07_Wrap_S N), (63, ref07_Fit_S N)] ref07_part_ns) (L := ref07_part_L) (fn := Tryz.f148) (N := N) (ctx_ok ⟨ref07_EncodeGeneral_spec N, ref07_Wrap_spec N, ref07_Fit_spec N, trivial⟩) (by kernel_rfl) (by kernel_rfl) (fun a => by kernel_rfl)

end Go.Proofs.YtnllccjmbijjlaaGreat.Vm

/-
  The functions of the program compute what is printed of them.
-/
namespace Go.Proofs.YtnllccjmbijjlaaGreat.Vm
open Go.Proofs
noncomputable def law20_awake_S (N : Nat) : Sig := .of [] [.cell false .bool] (fun _ => law20_awake N)
theorem law20_awake_spec (N : Nat) : Spec Tryz.prog 5 (law20_awake_S N) := spec_of_exe (C := ctx Tryz.prog [(12, bundle_Encode_S N), (13, bundle_Decode_S N)] []) (L := ⟨[], []⟩) (fn := Tryz.f5) (N := N) (ctx_ok ⟨bundle_Encode_spec N, bundle_Decode_spec N, trivial⟩) (by kernel_rfl) (by kernel_rfl) (fun a => by kernel_rfl)

def ref14_CheckList_ns : List (Nat × Nrm) := [(3, ⟨[], [], [], [], []⟩), (94, ⟨[1, 104, 105], [], [], [], []⟩)]
def ref14_CheckList_L : Lk := ⟨[], [(94, ⟨[(1, .c (.c (.ptr 33024 0))), (104, .i), (105, .c x64)], [(33024, .box [xs, xs, (xl (.sl 144 Tq1 .nil)), x64, x64, x64, x64, xs, xb, (xl Tq2), xb, xb, x64, xb, (xl Tq3), (xl Tq4), xs])]⟩, [(0, ⟨[], []⟩)])]⟩
noncomputable def ref14_CheckList_S (N : Nat) : Sig := .of [Sq10] [.cell false (.int .i64)] (fun a => ref14_CheckList N a)
theorem ref14_CheckList_spec (N : Nat) : Spec Tryz.prog 59 (ref14_CheckList_S N) := spec_of_exe (C := ctx Tryz.prog [(86, ref07_CheckName_S N), (87, ref14_checkScope_S N), (88, ref14_CheckPoints_S N), (89, ref14_checkEntry_S N)] ref14_CheckList_ns) (L := ref14_CheckList_L) (fn := Tryz.f59) (N := N) (ctx_ok ⟨ref07_CheckName_spec N, ref14_checkScope_spec N, ref14_CheckPoints_spec N, ref14_checkEntry_spec N, trivial⟩) (by kernel_rfl) (by kernel_rfl) (fun a => by kernel_rfl)

noncomputable def ref14_directory_S (N : Nat) : Sig := .of [Sq7] [.cell false .str] (fun a => ref14_directory N a)
theorem ref14_directory_spec (N : Nat) : Spec Tryz.prog 95 (ref14_directory_S N) := spec_of_exe (C := ctx Tryz.prog [(122, ref07_EncodeList_S N)] []) (L := ⟨[], []⟩) (fn := Tryz.f95) (N := N) (ctx_ok ⟨ref07_EncodeList_spec N, trivial⟩) (by kernel_rfl) (by kernel_rfl) (fun a => by kernel_rfl)

noncomputable def ref14_fullNames_S (N : Nat) : Sig := .of [.cell false (.sl 117 Tq2)] [.cell false .str] (fun a => ref14_fullNames N a)
theorem ref14_fullNames_spec (N : Nat) : Spec Tryz.prog 97 (ref14_fullNames_S N) := spec_of_exe (C := ctx Tryz.prog [(122, ref07_EncodeList_S N), (74, ref07_Wrap_S N)] []) (L := ⟨[], []⟩) (fn := Tryz.f97) (N := N) (ctx_ok ⟨ref07_EncodeList_spec N, ref07_Wrap_spec N, trivial⟩) (by kernel_rfl) (by kernel_rfl) (fun a => by kernel_rfl)

def made_List_ns : List (Nat × Nrm) := [(7, ⟨[2, 3], [], [], [(33652, 1036864), (1020480, 1036864)], [1036864]⟩), (17, ⟨[0, 2, 3], [], [], [], []⟩), (25, ⟨[0, 2, 3], [], [], [], []⟩), (33, ⟨[0, 2, 3], [], [], [], []⟩), (69, ⟨[0, 2, 3], [], [(some 33536, 9, Tq2)], [], []⟩), (77, ⟨[0, 2, 3], [], [(some 33536, 14, Tq3)], [], []⟩), (82, ⟨[0, 2, 3, 4], [], [], [(33652, 1020480), (69632, 1020480), (1032768, 1020480)], [1020480]⟩), (101, ⟨[0, 2, 3, 4, 5], [], [], [(33652, 1024576), (1020480, 1024576)], [1024576]⟩), (109, ⟨[0, 2, 3, 4, 5], [], [], [(33652, 1028672), (1024576, 1028672)], [1028672]⟩), (117, ⟨[0, 2, 3, 4, 5], [], [], [(33652, 1032768), (1028672, 1032768)], [1032768]⟩)]
def made_List_L : Lk := ⟨[(17, ⟨[(0, .c (.c (.ptr 0 0))), (2, .c (.c (.ptr 33280 0))), (3, .c (.c (.ptr 33536 0)))], [(0, .box [(xl (.int .i64 .nil)), x64]), (33280, .box [(.c (.str ([] : Bs))), (.c (.str ([] : Bs))), (xo 33283), (.c (.int .i64 0)), (.c (.int .i64 0)), (.c (.int .i64 0)), (.c (.int .i64 0)), (.c (.str ([] : Bs))), (.c (.bool false)), (xo 33290), (.c (.bool false)), (.c (.bool false)), (.c (.int .i64 0)), (.c (.bool false)), (xo 33295), (xo 33296), (.c (.str ([] : Bs)))]), (33283, .arr0 145 false (.sl 144 Tq1 .nil)), (33290, .arr0 117 false Tq2), (33295, .arr0 147 false Tq3), (33296, .arr0 121 false Tq4), (33536, .box [(.c (.str ([] : Bs))), (.c (.str ([] : Bs))), (xl (.sl 144 Tq1 .nil)), x64, x64, x64, (.c (.int .i64 (-1))), (.c (.str ([] : Bs))), (.c (.bool false)), (xo 33646), (.c (.bool false)), (.c (.bool false)), (.c (.int .i64 0)), (.c (.bool false)), (xo 33651), (xo 33652), (.c (.str ([] : Bs)))]), (33646, .arr0 117 false Tq2), (33651, .arr0 147 false Tq3), (33652, .arr0 121 false Tq4)]⟩), (25, ⟨[(0, .c (.c (.ptr 0 0))), (2, .c (.c (.ptr 33280 0))), (3, .c (.c (.ptr 33536 0)))], [(0, .box [(xl (.int .i64 .nil)), x64]), (33280, .box [(.c (.str ([] : Bs))), (.c (.str ([] : Bs))), (xo 33283), (.c (.int .i64 0)), (.c (.int .i64 0)), (.c (.int .i64 0)), (.c (.int .i64 0)), (.c (.str ([] : Bs))), (.c (.bool false)), (xo 33290), (.c (.bool false)), (.c (.bool false)), (.c (.int .i64 0)), (.c (.bool false)), (xo 33295), (xo 33296), (.c (.str ([] : Bs)))]), (33283, .arr0 145 false (.sl 144 Tq1 .nil)), (33290, .arr0 117 false Tq2), (33295, .arr0 147 false Tq3), (33296, .arr0 121 false Tq4), (33536, .box [(.c (.str ([] : Bs))), (.c (.str ([] : Bs))), (xl (.sl 144 Tq1 .nil)), x64, x64, x64, x64, (.c (.str ([] : Bs))), (.c (.bool false)), (xo 33646), (.c (.bool false)), (.c (.bool false)), (.c (.int .i64 0)), (.c (.bool false)), (xo 33651), (xo 33652), (.c (.str ([] : Bs)))]), (33646, .arr0 117 false Tq2), (33651, .arr0 147 false Tq3), (33652, .arr0 121 false Tq4)]⟩), (33, ⟨[(0, .c (.c (.ptr 0 0))), (2, .c (.c (.ptr 33280 0))), (3, .c (.c (.ptr 33536 0)))], [(0, .box [(xl (.int .i64 .nil)), x64]), (33280, .box [(.c (.str ([] : Bs))), (.c (.str ([] : Bs))), (xo 33283), (.c (.int .i64 0)), (.c (.int .i64 0)), (.c (.int .i64 0)), (.c (.int .i64 0)), (.c (.str ([] : Bs))), (.c (.bool false)), (xo 33290), (.c (.bool false)), (.c (.bool false)), (.c (.int .i64 0)), (.c (.bool false)), (xo 33295), (xo 33296), (.c (.str ([] : Bs)))]), (33283, .arr0 145 false (.sl 144 Tq1 .nil)), (33290, .arr0 117 false Tq2), (33295, .arr0 147 false Tq3), (33296, .arr0 121 false Tq4), (33536, .box [(.c (.str ([] : Bs))), (.c (.str ([] : Bs))), (xl (.sl 144 Tq1 .nil)), x64, x64, x64, x64, xs, (.c (.bool false)), (xo 33646), (.c (.bool false)), (.c (.bool false)), (.c (.int .i64 0)), (.c (.bool false)), (xo 33651), (xo 33652), (.c (.str ([] : Bs)))]), (33646, .arr0 117 false Tq2), (33651, .arr0 147 false Tq3), (33652, .arr0 121 false Tq4)]⟩), (69, ⟨[(0, .c (.c (.ptr 0 0))), (2, .c (.c (.ptr 33280 0))), (3, .c (.c (.ptr 33536 0)))], [(0, .box [(xl (.int .i64 .nil)), x64]), (33280, .box [(.c (.str ([] : Bs))), (.c (.str ([] : Bs))), (xo 33283), (.c (.int .i64 0)), (.c (.int .i64 0)), (.c (.int .i64 0)), (.c (.int .i64 0)), (.c (.str ([] : Bs))), (.c (.bool false)), (xo 33290), (.c (.bool false)), (.c (.bool false)), (.c (.int .i64 0)), (.c (.bool false)), (xo 33295), (xo 33296), (.c (.str ([] : Bs)))]), (33283, .arr0 145 false (.sl 144 Tq1 .nil)), (33290, .arr0 117 false Tq2), (33295, .arr0 147 false Tq3), (33296, .arr0 121 false Tq4), (33536, .box [(.c (.str ([] : Bs))), (.c (.str ([] : Bs))), (xl (.sl 144 Tq1 .nil)), x64, x64, x64, x64, xs, xb, (xl Tq2), xb, xb, x64, xb, (xo 33651), (xo 33652), (.c (.str ([] : Bs)))]), (33651, .arr0 147 false Tq3), (33652, .arr0 121 false Tq4)]⟩), (77, ⟨[(0, .c (.c (.ptr 0 0))), (2, .c (.c (.ptr 33280 0))), (3, .c (.c (.ptr 33536 0)))], [(0, .box [(xl (.int .i64 .nil)), x64]), (33280, .box [(.c (.str ([] : Bs))), (.c (.str ([] : Bs))), (xo 33283), (.c (.int .i64 0)), (.c (.int .i64 0)), (.c (.int .i64 0)), (.c (.int .i64 0)), (.c (.str ([] : Bs))), (.c (.bool false)), (xo 33290), (.c (.bool false)), (.c (.bool false)), (.c (.int .i64 0)), (.c (.bool false)), (xo 33295), (xo 33296), (.c (.str ([] : Bs)))]), (33283, .arr0 145 false (.sl 144 Tq1 .nil)), (33290, .arr0 117 false Tq2), (33295, .arr0 147 false Tq3), (33296, .arr0 121 false Tq4), (33536, .box [(.c (.str ([] : Bs))), (.c (.str ([] : Bs))), (xl (.sl 144 Tq1 .nil)), x64, x64, x64, x64, xs, xb, (xl Tq2), xb, xb, x64, xb, (xl Tq3), (xo 33652), (.c (.str ([] : Bs)))]), (33652, .arr0 121 false Tq4)]⟩), (101, ⟨[(0, .c (.c (.ptr 0 0))), (2, .c (.c (.ptr 33280 0))), (3, .c (.c (.ptr 33536 0))), (4, .i), (5, .c (.c (.ptr 34048 0)))], [(0, .box [(xl (.int .i64 .nil)), x64]), (33280, .box [(.c (.str ([] : Bs))), (.c (.str ([] : Bs))), (xo 33283), (.c (.int .i64 0)), (.c (.int .i64 0)), (.c (.int .i64 0)), (.c (.int .i64 0)), (.c (.str ([] : Bs))), (.c (.bool false)), (xo 33290), (.c (.bool false)), (.c (.bool false)), (.c (.int .i64 0)), (.c (.bool false)), (xo 33295), (xo 33296), (.c (.str ([] : Bs)))]), (33283, .arr0 145 false (.sl 144 Tq1 .nil)), (33290, .arr0 117 false Tq2), (33295, .arr0 147 false Tq3), (33296, .arr0 121 false Tq4), (33536, .box [(.c (.str ([] : Bs))), (.c (.str ([] : Bs))), (xl (.sl 144 Tq1 .nil)), x64, x64, x64, x64, xs, xb, (xl Tq2), xb, xb, x64, xb, (xl Tq3), (xo 1024576), (.c (.str ([] : Bs)))]), (34048, .box [x64, x64, x64, x64, (xl (.sl 144 Tq1 .nil))]), (1024576, .arr 121 true Tq4)]⟩), (109, ⟨[(0, .c (.c (.ptr 0 0))), (2, .c (.c (.ptr 33280 0))), (3, .c (.c (.ptr 33536 0))), (4, .i), (5, .c (.c (.ptr 34048 0)))], [(0, .box [(xl (.int .i64 .nil)), x64]), (33280, .box [(.c (.str ([] : Bs))), (.c (.str ([] : Bs))), (xo 33283), (.c (.int .i64 0)), (.c (.int .i64 0)), (.c (.int .i64 0)), (.c (.int .i64 0)), (.c (.str ([] : Bs))), (.c (.bool false)), (xo 33290), (.c (.bool false)), (.c (.bool false)), (.c (.int .i64 0)), (.c (.bool false)), (xo 33295), (xo 33296), (.c (.str ([] : Bs)))]), (33283, .arr0 145 false (.sl 144 Tq1 .nil)), (33290, .arr0 117 false Tq2), (33295, .arr0 147 false Tq3), (33296, .arr0 121 false Tq4), (33536, .box [(.c (.str ([] : Bs))), (.c (.str ([] : Bs))), (xl (.sl 144 Tq1 .nil)), x64, x64, x64, x64, xs, xb, (xl Tq2), xb, xb, x64, xb, (xl Tq3), (xo 1028672), (.c (.str ([] : Bs)))]), (34048, .box [x64, x64, x64, x64, (xl (.sl 144 Tq1 .nil))]), (1028672, .arr 121 true Tq4)]⟩), (117, ⟨[(0, .c (.c (.ptr 0 0))), (2, .c (.c (.ptr 33280 0))), (3, .c (.c (.ptr 33536 0))), (4, .i), (5, .c (.c (.ptr 34048 0)))], [(0, .box [(xl (.int .i64 .nil)), x64]), (33280, .box [(.c (.str ([] : Bs))), (.c (.str ([] : Bs))), (xo 33283), (.c (.int .i64 0)), (.c (.int .i64 0)), (.c (.int .i64 0)), (.c (.int .i64 0)), (.c (.str ([] : Bs))), (.c (.bool false)), (xo 33290), (.c (.bool false)), (.c (.bool false)), (.c (.int .i64 0)), (.c (.bool false)), (xo 33295), (xo 33296), (.c (.str ([] : Bs)))]), (33283, .arr0 145 false (.sl 144 Tq1 .nil)), (33290, .arr0 117 false Tq2), (33295, .arr0 147 false Tq3), (33296, .arr0 121 false Tq4), (33536, .box [(.c (.str ([] : Bs))), (.c (.str ([] : Bs))), (xl (.sl 144 Tq1 .nil)), x64, x64, x64, x64, xs, xb, (xl Tq2), xb, xb, x64, xb, (xl Tq3), (xo 1032768), (.c (.str ([] : Bs)))]), (34048, .box [x64, x64, x64, x64, (xl (.sl 144 Tq1 .nil))]), (1032768, .arr 121 true Tq4)]⟩)], [(82, ⟨[(0, .c (.c (.ptr 0 0))), (2, .c (.c (.ptr 33280 0))), (3, .c (.c (.ptr 33536 0))), (4, .c x64)], [(0, .box [(xl (.int .i64 .nil)), x64]), (33280, .box [(.c (.str ([] : Bs))), (.c (.str ([] : Bs))), (xo 33283), (.c (.int .i64 0)), (.c (.int .i64 0)), (.c (.int .i64 0)), (.c (.int .i64 0)), (.c (.str ([] : Bs))), (.c (.bool false)), (xo 33290), (.c (.bool false)), (.c (.bool false)), (.c (.int .i64 0)), (.c (.bool false)), (xo 33295), (xo 33296), (.c (.str ([] : Bs)))]), (33283, .arr0 145 false (.sl 144 Tq1 .nil)), (33290, .arr0 117 false Tq2), (33295, .arr0 147 false Tq3), (33296, .arr0 121 false Tq4), (33536, .box [(.c (.str ([] : Bs))), (.c (.str ([] : Bs))), (xl (.sl 144 Tq1 .nil)), x64, x64, x64, x64, xs, xb, (xl Tq2), xb, xb, x64, xb, (xl Tq3), (xo 1020480), (.c (.str ([] : Bs)))]), (1020480, .arr 121 true Tq4)]⟩, [(1, ⟨[(2, .c (.c (.ptr 33280 0))), (3, .c (.c (.ptr 33536 0)))], [(0, .box [(xl (.int .i64 .nil)), x64]), (33280, .box [(.c (.str ([] : Bs))), (.c (.str ([] : Bs))), (xo 33283), (.c (.int .i64 0)), (.c (.int .i64 0)), (.c (.int .i64 0)), (.c (.int .i64 0)), (.c (.str ([] : Bs))), (.c (.bool false)), (xo 33290), (.c (.bool false)), (.c (.bool false)), (.c (.int .i64 0)), (.c (.bool false)), (xo 33295), (xo 33296), (.c (.str ([] : Bs)))]), (33283, .arr0 145 false (.sl 144 Tq1 .nil)), (33290, .arr0 117 false Tq2), (33295, .arr0 147 false Tq3), (33296, .arr0 121 false Tq4), (33536, .box [(.c (.str ([] : Bs))), (.c (.str ([] : Bs))), (xl (.sl 144 Tq1 .nil)), x64, x64, x64, x64, xs, xb, (xl Tq2), xb, xb, x64, xb, (xl Tq3), (xo 1036864), (.c (.str ([] : Bs)))]), (1036864, .arr 121 true Tq4)]⟩)])]⟩
noncomputable def made_List_S (N : Nat) : Sig := .of [Sq6] [Sq10] (fun a => made_List N a)
theorem made_List_spec (N : Nat) : Spec Tryz.prog 30 (made_List_S N) := spec_of_exe (C := ctx Tryz.prog [(14, made_Deck_Next_S N), (44, made_Authority_S N), (45, made_Time_S N), (46, made_General_S N), (47, made_points_S N), (48, ref14_FindEntry_S N)] made_List_ns) (L := made_List_L) (fn := Tryz.f30) (N := N) (ctx_ok ⟨made_Deck_Next_spec N, made_Authority_spec N, made_Time_spec N, made_General_spec N, made_points_spec N, ref14_FindEntry_spec N, trivial⟩) (by kernel_rfl) (by kernel_rfl) (fun a => by kernel_rfl)

def ref14_CheckInfo_ns : List (Nat × Nrm) := [(3, ⟨[], [], [], [], []⟩), (93, ⟨[1], [], [], [], []⟩), (138, ⟨[1, 134, 135, 136], [], [], [], []⟩)]
def ref14_CheckInfo_L : Lk := ⟨[(93, ⟨[(1, .c (.c (.ptr 33024 0)))], [(33024, .box [xb, xb, x64, x64, (xl (.str .nil)), (xl (.str .nil)), (xl (.str (.str .nil))), x64, x64, x64, (xl Tq2), xb, (xl Tq2), (xl Tq2), xs, xs, (xl Tq3), (xl Tq3), (xl Tq5)])]⟩)], [(138, ⟨[(1, .c (.c (.ptr 33024 0))), (134, .i), (135, .i), (136, .c x64)], [(33024, .box [xb, xb, x64, x64, (xl (.str .nil)), (xl (.str .nil)), (xl (.str (.str .nil))), x64, x64, x64, (xl Tq2), xb, (xl Tq2), (xl Tq2), xs, xs, (xl Tq3), (xl Tq3), (xl Tq5)])]⟩, [(0, ⟨[], []⟩)])]⟩
noncomputable def ref14_CheckInfo_S (N : Nat) : Sig := .of [Sq17] [.cell false (.int .i64)] (fun a => ref14_CheckInfo N a)
theorem ref14_CheckInfo_spec (N : Nat) : Spec Tryz.prog 105 (ref14_CheckInfo_S N) := spec_of_exe (C := ctx Tryz.prog [(128, ref14_skip_S N), (129, ref14_checkOIDs_S N), (130, ref14_checkMappings_S N), (118, ref14_checkNames_S N), (131, ref07_CheckSubtrees_S N), (88, ref14_CheckPoints_S N), (132, ref14_Count_S N), (133, ref01_ValidOID_S N), (134, ref14_Known_S N), (135, ref14_Find_S N), (54, ref01_Check_S N)] ref14_CheckInfo_ns) (L := ref14_CheckInfo_L) (fn := Tryz.f105) (N := N) (ctx_ok ⟨ref14_skip_spec N, ref14_checkOIDs_spec N, ref14_checkMappings_spec N, ref14_checkNames_spec N, ref07_CheckSubtrees_spec N, ref14_CheckPoints_spec N, ref14_Count_spec N, ref01_ValidOID_spec N, ref14_Known_spec N, ref14_Find_spec N, ref01_Check_spec N, trivial⟩) (by kernel_rfl) (by kernel_rfl) (fun a => by kernel_rfl)

noncomputable def ref07_EncodeSubtrees_S (N : Nat) : Sig := .of [Sq16] [.cell false .str, .cell false (.int .i64)] (fun a => ref07_EncodeSubtrees N a)
theorem ref07_EncodeSubtrees_spec (N : Nat) : Spec Tryz.prog 137 (ref07_EncodeSubtrees_S N) := spec_of_exe (C := ctx Tryz.prog [(131, ref07_CheckSubtrees_S N), (148, ref07_part_S N), (63, ref07_Fit_S N)] []) (L := ⟨[], []⟩) (fn := Tryz.f137) (N := N) (ctx_ok ⟨ref07_CheckSubtrees_spec N, ref07_part_spec N, ref07_Fit_spec N, trivial⟩) (by kernel_rfl) (by kernel_rfl) (fun a => by kernel_rfl)

end Go.Proofs.YtnllccjmbijjlaaGreat.Vm

/-
  The functions of the program compute what is printed of them.
-/
namespace Go.Proofs.YtnllccjmbijjlaaGreat.Vm
open Go.Proofs
def ref14_entry_ns : List (Nat × Nrm) := [(17, ⟨[2, 3, 5], [([5], 158, Tq5, 1000000)], [], [(37888, 1000000)], []⟩), (29, ⟨[2, 3, 5], [], [], [(41472, 1004096), (1000000, 1004096)], []⟩), (37, ⟨[2, 5], [], [], [(45056, 1008192), (1004096, 1008192)], []⟩), (49, ⟨[2, 8], [], [], [], []⟩)]
def ref14_entry_L : Lk := ⟨[(17, ⟨[(2, .c (.c (.ptr 33280 0))), (3, .c (.c (.ptr 33536 0))), (5, .c (xo 1000000))], [(33280, .box [x64, x64, x64, x64, (xl (.sl 144 Tq1 .nil))]), (33536, .box [(xl (.sl 144 Tq1 .nil))]), (1000000, .arr 158 false Tq5)]⟩), (29, ⟨[(2, .c (.c (.ptr 33280 0))), (3, .c (.c (.ptr 33536 0))), (5, .c (xo 1004096))], [(33280, .box [x64, x64, x64, x64, (xl (.sl 144 Tq1 .nil))]), (33536, .box [(xl (.sl 144 Tq1 .nil))]), (1004096, .arr 158 false Tq5)]⟩), (37, ⟨[(2, .c (.c (.ptr 33280 0))), (5, .c (xo 1008192))], [(33280, .box [x64, x64, x64, x64, (xl (.sl 144 Tq1 .nil))]), (1008192, .arr 158 false Tq5)]⟩), (49, ⟨[(2, .c (.c (.ptr 33280 0))), (8, .c xs)], [(33280, .box [x64, x64, x64, x64, (xl (.sl 144 Tq1 .nil))])]⟩)], []⟩
noncomputable def ref14_entry_S (N : Nat) : Sig := .of [Sq14, Sq7] [.cell false .str] (fun a => ref14_entry N a.1 a.2)
theorem ref14_entry_spec (N : Nat) : Spec Tryz.prog 62 (ref14_entry_S N) := spec_of_exe (C := ctx Tryz.prog [(66, ref14_number_S N), (61, ref01_EncodeTime_S N), (70, ref07_MatchName_S N), (95, ref14_directory_S N), (74, ref07_Wrap_S N), (96, ref14_EncodeExtensions_S N)] ref14_entry_ns) (L := ref14_entry_L) (fn := Tryz.f62) (N := N) (ctx_ok ⟨ref14_number_spec N, ref01_EncodeTime_spec N, ref07_MatchName_spec N, ref14_directory_spec N, ref07_Wrap_spec N, ref14_EncodeExtensions_spec N, trivial⟩) (by kernel_rfl) (by kernel_rfl) (fun a => by kernel_rfl)

def ref14_EncodePoints_ns : List (Nat × Nrm) := [(3, ⟨[5], [], [], [], []⟩), (34, ⟨[5, 17, 18, 19], [], [], [], []⟩), (53, ⟨[5, 7, 8, 17, 18, 19], [], [], [], []⟩)]
def ref14_EncodePoints_L : Lk := ⟨[(53, ⟨[(5, .i), (7, .c (.c (.ptr 34560 0))), (8, .c xs), (17, .i), (18, .i), (19, .i)], [(34560, .box [(xl Tq2), x64, xb, (xl (.sl 144 Tq1 .nil))])]⟩)], [(34, ⟨[(5, .c xs), (17, .i), (18, .i), (19, .c x64)], []⟩, [(0, ⟨[(5, .c xs)], []⟩)])]⟩
noncomputable def ref14_EncodePoints_S (N : Nat) : Sig := .of [.cell false (.sl 147 Tq3)] [.cell false .str, .cell false (.int .i64)] (fun a => ref14_EncodePoints N a)
theorem ref14_EncodePoints_spec (N : Nat) : Spec Tryz.prog 100 (ref14_EncodePoints_S N) := spec_of_exe (C := ctx Tryz.prog [(88, ref14_CheckPoints_S N), (95, ref14_directory_S N), (74, ref07_Wrap_S N), (97, ref14_fullNames_S N), (99, ref14_flags_S N), (63, ref07_Fit_S N)] ref14_EncodePoints_ns) (L := ref14_EncodePoints_L) (fn := Tryz.f100) (N := N) (ctx_ok ⟨ref14_CheckPoints_spec N, ref14_directory_spec N, ref07_Wrap_spec N, ref14_fullNames_spec N, ref14_flags_spec N, ref07_Fit_spec N, trivial⟩) (by kernel_rfl) (by kernel_rfl) (fun a => by kernel_rfl)

noncomputable def ref14_CheckCert_S (N : Nat) : Sig := .of [Sq18] [.cell false (.int .i64)] (fun a => ref14_CheckCert N a)
theorem ref14_CheckCert_spec (N : Nat) : Spec Tryz.prog 71 (ref14_CheckCert_S N) := spec_of_exe (C := ctx Tryz.prog [(86, ref07_CheckName_S N), (104, ref11_CheckKey_S N), (105, ref14_CheckInfo_S N)] []) (L := ⟨[], []⟩) (fn := Tryz.f71) (N := N) (ctx_ok ⟨ref07_CheckName_spec N, ref11_CheckKey_spec N, ref14_CheckInfo_spec N, trivial⟩) (by kernel_rfl) (by kernel_rfl) (fun a => by kernel_rfl)

end Go.Proofs.YtnllccjmbijjlaaGreat.Vm

/-
  The functions of the program compute what is printed of them.
-/
namespace Go.Proofs.YtnllccjmbijjlaaGreat.Vm
open Go.Proofs
def ref14_listExtensions_ns : List (Nat × Nrm) := [(17, ⟨[1, 4], [([4], 158, Tq5, 1000000)], [], [(37888, 1000000)], []⟩), (29, ⟨[1, 4], [], [], [(39680, 1004096), (42240, 1004096)], []⟩), (41, ⟨[1, 4], [], [], [(49664, 1008192), (1004096, 1008192)], []⟩)]
def ref14_listExtensions_L : Lk := ⟨[(17, ⟨[(1, .c (.c (.ptr 33024 0))), (4, .c (xo 1000000))], [(33024, .box [xs, xs, (xl (.sl 144 Tq1 .nil)), x64, x64, x64, x64, xs, xb, (xl Tq2), xb, xb, x64, xb, (xl Tq3), (xl Tq4), xs]), (1000000, .arr 158 false Tq5)]⟩), (29, ⟨[(1, .c (.c (.ptr 33024 0))), (4, .c (xo 1004096))], [(33024, .box [xs, xs, (xl (.sl 144 Tq1 .nil)), x64, x64, x64, x64, xs, xb, (xl Tq2), xb, xb, x64, xb, (xl Tq3), (xl Tq4), xs]), (1004096, .arr 158 false Tq5)]⟩), (41, ⟨[(1, .c (.c (.ptr 33024 0))), (4, .c (xo 1008192))], [(33024, .box [xs, xs, (xl (.sl 144 Tq1 .nil)), x64, x64, x64, x64, xs, xb, (xl Tq2), xb, xb, x64, xb, (xl Tq3), (xl Tq4), xs]), (1008192, .arr 158 false Tq5)]⟩)], []⟩
noncomputable def ref14_listExtensions_S (N : Nat) : Sig := .of [Sq10] [.cell false (.sl 158 Tq5), .cell false (.int .i64)] (fun a => ref14_listExtensions N a)
theorem ref14_listExtensions_spec (N : Nat) : Spec Tryz.prog 64 (ref14_listExtensions_S N) := spec_of_exe (C := ctx Tryz.prog [(74, ref07_Wrap_S N), (66, ref14_number_S N), (97, ref14_fullNames_S N), (98, ref14_boolean_S N), (99, ref14_flags_S N), (100, ref14_EncodePoints_S N)] ref14_listExtensions_ns) (L := ref14_listExtensions_L) (fn := Tryz.f64) (N := N) (ctx_ok ⟨ref07_Wrap_spec N, ref14_number_spec N, ref14_fullNames_spec N, ref14_boolean_spec N, ref14_flags_spec N, ref14_EncodePoints_spec N, trivial⟩) (by kernel_rfl) (by kernel_rfl) (fun a => by kernel_rfl)

def ref14_EncodeInfo_ns : List (Nat × Nrm) := [(3, ⟨[1, 5, 7], [], [], [], []⟩), (11, ⟨[1, 5, 10], [], [], [], []⟩), (19, ⟨[1, 5, 13], [], [], [], []⟩), (27, ⟨[1, 5], [], [], [], []⟩), (37, ⟨[1, 5, 6], [], [], [], []⟩), (41, ⟨[1, 5], [([5], 158, Tq5, 1000000)], [], [(45312, 1000000)], []⟩), (49, ⟨[1, 5], [], [], [(47872, 1008192), (1000000, 1008192)], []⟩), (62, ⟨[1, 5, 7, 65, 66, 67], [], [], [], []⟩), (81, ⟨[1, 5], [], [], [(53760, 1012288), (1008192, 1012288)], []⟩), (94, ⟨[1, 5, 10, 88, 89, 90], [], [], [], []⟩), (113, ⟨[1, 5], [], [], [(60160, 1024576), (1012288, 1024576)], []⟩), (126, ⟨[1, 5, 13, 113, 114, 115], [], [], [], []⟩), (145, ⟨[1, 5], [], [], [(67584, 1036864), (1024576, 1036864)], []⟩), (161, ⟨[1, 5, 16], [], [], [], []⟩), (169, ⟨[1, 5, 16], [], [], [], []⟩), (173, ⟨[1, 5], [], [], [(75008, 1049152), (1036864, 1049152)], []⟩), (181, ⟨[1, 5], [], [], [(77568, 1061440), (1049152, 1061440)], []⟩), (193, ⟨[1, 5], [], [], [(81920, 1065536), (1061440, 1065536)], []⟩), (213, ⟨[1, 5], [], [], [(86016, 1069632), (1065536, 1069632)], []⟩), (221, ⟨[1, 5], [], [], [(88832, 1073728), (1069632, 1073728)], []⟩), (229, ⟨[1, 5], [], [], [(92160, 1077824), (1073728, 1077824)], []⟩), (234, ⟨[1, 5, 237, 238, 239], [], [], [(100096, 1077824)], []⟩)]
def ref14_EncodeInfo_L : Lk := ⟨[(37, ⟨[(1, .c (.c (.ptr 33024 0))), (5, .c x0), (6, .c xs)], [(33024, .box [xb, xb, x64, x64, (xl (.str .nil)), (xl (.str .nil)), (xl (.str (.str .nil))), x64, x64, x64, (xl Tq2), xb, (xl Tq2), (xl Tq2), xs, xs, (xl Tq3), (xl Tq3), (xl Tq5)])]⟩), (41, ⟨[(1, .c (.c (.ptr 33024 0))), (5, .c (xo 1000000))], [(33024, .box [xb, xb, x64, x64, (xl (.str .nil)), (xl (.str .nil)), (xl (.str (.str .nil))), x64, x64, x64, (xl Tq2), xb, (xl Tq2), (xl Tq2), xs, xs, (xl Tq3), (xl Tq3), (xl Tq5)]), (1000000, .arr 158 false Tq5)]⟩), (49, ⟨[(1, .c (.c (.ptr 33024 0))), (5, .c (xo 1008192))], [(33024, .box [xb, xb, x64, x64, (xl (.str .nil)), (xl (.str .nil)), (xl (.str (.str .nil))), x64, x64, x64, (xl Tq2), xb, (xl Tq2), (xl Tq2), xs, xs, (xl Tq3), (xl Tq3), (xl Tq5)]), (1008192, .arr 158 false Tq5)]⟩), (81, ⟨[(1, .c (.c (.ptr 33024 0))), (5, .c (xo 1012288))], [(33024, .box [xb, xb, x64, x64, (xl (.str .nil)), (xl (.str .nil)), (xl (.str (.str .nil))), x64, x64, x64, (xl Tq2), xb, (xl Tq2), (xl Tq2), xs, xs, (xl Tq3), (xl Tq3), (xl Tq5)]), (1012288, .arr 158 false Tq5)]⟩), (113, ⟨[(1, .c (.c (.ptr 33024 0))), (5, .c (xo 1024576))], [(33024, .box [xb, xb, x64, x64, (xl (.str .nil)), (xl (.str .nil)), (xl (.str (.str .nil))), x64, x64, x64, (xl Tq2), xb, (xl Tq2), (xl Tq2), xs, xs, (xl Tq3), (xl Tq3), (xl Tq5)]), (1024576, .arr 158 false Tq5)]⟩), (145, ⟨[(1, .c (.c (.ptr 33024 0))), (5, .c (xo 1036864))], [(33024, .box [xb, xb, x64, x64, (xl (.str .nil)), (xl (.str .nil)), (xl (.str (.str .nil))), x64, x64, x64, (xl Tq2), xb, (xl Tq2), (xl Tq2), xs, xs, (xl Tq3), (xl Tq3), (xl Tq5)]), (1036864, .arr 158 false Tq5)]⟩), (161, ⟨[(1, .c (.c (.ptr 33024 0))), (5, .c (xo 1036864)), (16, .c xs)], [(33024, .box [xb, xb, x64, x64, (xl (.str .nil)), (xl (.str .nil)), (xl (.str (.str .nil))), x64, x64, x64, (xl Tq2), xb, (xl Tq2), (xl Tq2), xs, xs, (xl Tq3), (xl Tq3), (xl Tq5)]), (1036864, .arr 158 false Tq5)]⟩), (169, ⟨[(1, .c (.c (.ptr 33024 0))), (5, .c (xo 1036864)), (16, .c xs)], [(33024, .box [xb, xb, x64, x64, (xl (.str .nil)), (xl (.str .nil)), (xl (.str (.str .nil))), x64, x64, x64, (xl Tq2), xb, (xl Tq2), (xl Tq2), xs, xs, (xl Tq3), (xl Tq3), (xl Tq5)]), (1036864, .arr 158 false Tq5)]⟩), (173, ⟨[(1, .c (.c (.ptr 33024 0))), (5, .c (xo 1049152))], [(33024, .box [xb, xb, x64, x64, (xl (.str .nil)), (xl (.str .nil)), (xl (.str (.str .nil))), x64, x64, x64, (xl Tq2), xb, (xl Tq2), (xl Tq2), xs, xs, (xl Tq3), (xl Tq3), (xl Tq5)]), (1049152, .arr 158 false Tq5)]⟩), (181, ⟨[(1, .c (.c (.ptr 33024 0))), (5, .c (xo 1061440))], [(33024, .box [xb, xb, x64, x64, (xl (.str .nil)), (xl (.str .nil)), (xl (.str (.str .nil))), x64, x64, x64, (xl Tq2), xb, (xl Tq2), (xl Tq2), xs, xs, (xl Tq3), (xl Tq3), (xl Tq5)]), (1061440, .arr 158 false Tq5)]⟩), (193, ⟨[(1, .c (.c (.ptr 33024 0))), (5, .c (xo 1065536))], [(33024, .box [xb, xb, x64, x64, (xl (.str .nil)), (xl (.str .nil)), (xl (.str (.str .nil))), x64, x64, x64, (xl Tq2), xb, (xl Tq2), (xl Tq2), xs, xs, (xl Tq3), (xl Tq3), (xl Tq5)]), (1065536, .arr 158 false Tq5)]⟩), (213, ⟨[(1, .c (.c (.ptr 33024 0))), (5, .c (xo 1069632))], [(33024, .box [xb, xb, x64, x64, (xl (.str .nil)), (xl (.str .nil)), (xl (.str (.str .nil))), x64, x64, x64, (xl Tq2), xb, (xl Tq2), (xl Tq2), xs, xs, (xl Tq3), (xl Tq3), (xl Tq5)]), (1069632, .arr 158 false Tq5)]⟩), (221, ⟨[(1, .c (.c (.ptr 33024 0))), (5, .c (xo 1073728))], [(33024, .box [xb, xb, x64, x64, (xl (.str .nil)), (xl (.str .nil)), (xl (.str (.str .nil))), x64, x64, x64, (xl Tq2), xb, (xl Tq2), (xl Tq2), xs, xs, (xl Tq3), (xl Tq3), (xl Tq5)]), (1073728, .arr 158 false Tq5)]⟩), (229, ⟨[(1, .c (.c (.ptr 33024 0))), (5, .c (xo 1077824))], [(33024, .box [xb, xb, x64, x64, (xl (.str .nil)), (xl (.str .nil)), (xl (.str (.str .nil))), x64, x64, x64, (xl Tq2), xb, (xl Tq2), (xl Tq2), xs, xs, (xl Tq3), (xl Tq3), (xl Tq5)]), (1077824, .arr 158 false Tq5)]⟩)], [(62, ⟨[(1, .c (.c (.ptr 33024 0))), (5, .c (xo 1008192)), (7, .c xs), (65, .i), (66, .i), (67, .c x64)], [(33024, .box [xb, xb, x64, x64, (xl (.str .nil)), (xl (.str .nil)), (xl (.str (.str .nil))), x64, x64, x64, (xl Tq2), xb, (xl Tq2), (xl Tq2), xs, xs, (xl Tq3), (xl Tq3), (xl Tq5)]), (1008192, .arr 158 false Tq5)]⟩, [(0, ⟨[(1, .c (.c (.ptr 33024 0))), (5, .c (xo 1008192)), (7, .c xs)], [(33024, .box [xb, xb, x64, x64, (xl (.str .nil)), (xl (.str .nil)), (xl (.str (.str .nil))), x64, x64, x64, (xl Tq2), xb, (xl Tq2), (xl Tq2), xs, xs, (xl Tq3), (xl Tq3), (xl Tq5)]), (1008192, .arr 158 false Tq5)]⟩)]), (94, ⟨[(1, .c (.c (.ptr 33024 0))), (5, .c (xo 1012288)), (10, .c xs), (88, .i), (89, .i), (90, .c x64)], [(33024, .box [xb, xb, x64, x64, (xl (.str .nil)), (xl (.str .nil)), (xl (.str (.str .nil))), x64, x64, x64, (xl Tq2), xb, (xl Tq2), (xl Tq2), xs, xs, (xl Tq3), (xl Tq3), (xl Tq5)]), (1012288, .arr 158 false Tq5)]⟩, [(2, ⟨[(1, .c (.c (.ptr 33024 0))), (5, .c (xo 1012288)), (10, .c xs)], [(33024, .box [xb, xb, x64, x64, (xl (.str .nil)), (xl (.str .nil)), (xl (.str (.str .nil))), x64, x64, x64, (xl Tq2), xb, (xl Tq2), (xl Tq2), xs, xs, (xl Tq3), (xl Tq3), (xl Tq5)]), (1012288, .arr 158 false Tq5)]⟩)]), (126, ⟨[(1, .c (.c (.ptr 33024 0))), (5, .c (xo 1024576)), (13, .c xs), (113, .i), (114, .i), (115, .c x64)], [(33024, .box [xb, xb, x64, x64, (xl (.str .nil)), (xl (.str .nil)), (xl (.str (.str .nil))), x64, x64, x64, (xl Tq2), xb, (xl Tq2), (xl Tq2), xs, xs, (xl Tq3), (xl Tq3), (xl Tq5)]), (1024576, .arr 158 false Tq5)]⟩, [(4, ⟨[(1, .c (.c (.ptr 33024 0))), (5, .c (xo 1024576)), (13, .c xs)], [(33024, .box [xb, xb, x64, x64, (xl (.str .nil)), (xl (.str .nil)), (xl (.str (.str .nil))), x64, x64, x64, (xl Tq2), xb, (xl Tq2), (xl Tq2), xs, xs, (xl Tq3), (xl Tq3), (xl Tq5)]), (1024576, .arr 158 false Tq5)]⟩)]), (234, ⟨[(1, .c (.c (.ptr 33024 0))), (5, .c (xo 1077824)), (237, .c (xo 93440)), (238, .i), (239, .c x64)], [(33024, .box [xb, xb, x64, x64, (xl (.str .nil)), (xl (.str .nil)), (xl (.str (.str .nil))), x64, x64, x64, (xl Tq2), xb, (xl Tq2), (xl Tq2), xs, xs, (xl Tq3), (xl Tq3), (xl Tq5)]), (93440, .arr 77 false (.sl 147 Tq3 .nil)), (1077824, .arr 158 false Tq5)]⟩, [(6, ⟨[(1, .c (.c (.ptr 33024 0))), (5, .c (xo 1077824))], [(33024, .box [xb, xb, x64, x64, (xl (.str .nil)), (xl (.str .nil)), (xl (.str (.str .nil))), x64, x64, x64, (xl Tq2), xb, (xl Tq2), (xl Tq2), xs, xs, (xl Tq3), (xl Tq3), (xl Tq5)]), (1077824, .arr 158 false Tq5)]⟩)])]⟩
noncomputable def ref14_EncodeInfo_S (N : Nat) : Sig := .of [Sq17] [.cell false (.sl 158 Tq5), .cell false (.int .i64)] (fun a => ref14_EncodeInfo N a)
theorem ref14_EncodeInfo_spec (N : Nat) : Spec Tryz.prog 107 (ref14_EncodeInfo_S N) := spec_of_exe (C := ctx Tryz.prog [(105, ref14_CheckInfo_S N), (98, ref14_boolean_S N), (66, ref14_number_S N), (74, ref07_Wrap_S N), (99, ref14_flags_S N), (102, ref07_OID_S N), (122, ref07_EncodeList_S N), (137, ref07_EncodeSubtrees_S N), (100, ref14_EncodePoints_S N)] ref14_EncodeInfo_ns) (L := ref14_EncodeInfo_L) (fn := Tryz.f107) (N := N) (ctx_ok ⟨ref14_CheckInfo_spec N, ref14_boolean_spec N, ref14_number_spec N, ref07_Wrap_spec N, ref14_flags_spec N, ref07_OID_spec N, ref07_EncodeList_spec N, ref07_EncodeSubtrees_spec N, ref14_EncodePoints_spec N, trivial⟩) (by kernel_rfl) (by kernel_rfl) (fun a => by kernel_rfl)

end Go.Proofs.YtnllccjmbijjlaaGreat.Vm

/-
  The functions of the program compute what is printed of them.
-/
namespace Go.Proofs.YtnllccjmbijjlaaGreat.Vm
open Go.Proofs
def ref14_EncodeListTBS_ns : List (Nat × Nrm) := [(3, ⟨[1, 5, 7, 9, 11], [], [], [], []⟩), (42, ⟨[1, 5, 7, 9, 11, 12, 46, 47, 48], [], [], [], []⟩), (81, ⟨[1, 5, 7, 9, 11], [], [], [], []⟩)]
def ref14_EncodeListTBS_L : Lk := ⟨[(81, ⟨[(1, .c (.c (.ptr 33024 0))), (5, .i), (7, .i), (9, .i), (11, .c xs)], [(33024, .box [xs, xs, (xl (.sl 144 Tq1 .nil)), x64, x64, x64, x64, xs, xb, (xl Tq2), xb, xb, x64, xb, (xl Tq3), (xl Tq4), xs])]⟩)], [(42, ⟨[(1, .c (.c (.ptr 33024 0))), (5, .i), (7, .i), (9, .i), (11, .c xs), (12, .c (.c (.ptr 35840 0))), (46, .i), (47, .i), (48, .c x64)], [(33024, .box [xs, xs, (xl (.sl 144 Tq1 .nil)), x64, x64, x64, x64, xs, xb, (xl Tq2), xb, xb, x64, xb, (xl Tq3), (xl Tq4), xs]), (35840, .box [(xl (.sl 144 Tq1 .nil))])]⟩, [(0, ⟨[(1, .c (.c (.ptr 33024 0))), (5, .i), (7, .i), (9, .i), (11, .c xs)], [(33024, .box [xs, xs, (xl (.sl 144 Tq1 .nil)), x64, x64, x64, x64, xs, xb, (xl Tq2), xb, xb, x64, xb, (xl Tq3), (xl Tq4), xs])]⟩)])]⟩
noncomputable def ref14_EncodeListTBS_S (N : Nat) : Sig := .of [Sq10] [.cell false .str, .cell false (.int .i64)] (fun a => ref14_EncodeListTBS N a)
theorem ref14_EncodeListTBS_spec (N : Nat) : Spec Tryz.prog 42 (ref14_EncodeListTBS_S N) := spec_of_exe (C := ctx Tryz.prog [(59, ref14_CheckList_S N), (60, ref07_EncodeName_S N), (61, ref01_EncodeTime_S N), (62, ref14_entry_S N), (63, ref07_Fit_S N), (64, ref14_listExtensions_S N), (65, ref14_wrapped_S N), (66, ref14_number_S N), (67, ref14_Algorithm_S N)] ref14_EncodeListTBS_ns) (L := ref14_EncodeListTBS_L) (fn := Tryz.f42) (N := N) (ctx_ok ⟨ref14_CheckList_spec N, ref07_EncodeName_spec N, ref01_EncodeTime_spec N, ref14_entry_spec N, ref07_Fit_spec N, ref14_listExtensions_spec N, ref14_wrapped_spec N, ref14_number_spec N, ref14_Algorithm_spec N, trivial⟩) (by kernel_rfl) (by kernel_rfl) (fun a => by kernel_rfl)

noncomputable def ref14_extensions_S (N : Nat) : Sig := .of [.cell false (.int .i64), Sq17] [.cell false .str, .cell false (.int .i64)] (fun a => ref14_extensions N a.1 a.2)
theorem ref14_extensions_spec (N : Nat) : Spec Tryz.prog 73 (ref14_extensions_S N) := spec_of_exe (C := ctx Tryz.prog [(107, ref14_EncodeInfo_S N), (65, ref14_wrapped_S N)] []) (L := ⟨[], []⟩) (fn := Tryz.f73) (N := N) (ctx_ok ⟨ref14_EncodeInfo_spec N, ref14_wrapped_spec N, trivial⟩) (by kernel_rfl) (by kernel_rfl) (fun a => by kernel_rfl)

end Go.Proofs.YtnllccjmbijjlaaGreat.Vm

/-
  The functions of the program compute what is printed of them.
-/
namespace Go.Proofs.YtnllccjmbijjlaaGreat.Vm
open Go.Proofs
noncomputable def made_SealedList_S (N : Nat) : Sig := .of [Sq10] [.cell false .str] (fun a => made_SealedList N a)
theorem made_SealedList_spec (N : Nat) : Spec Tryz.prog 29 (made_SealedList_S N) := spec_of_exe (C := ctx Tryz.prog [(42, ref14_EncodeListTBS_S N), (43, ref14_Seal_S N)] []) (L := ⟨[], []⟩) (fn := Tryz.f29) (N := N) (ctx_ok ⟨ref14_EncodeListTBS_spec N, ref14_Seal_spec N, trivial⟩) (by kernel_rfl) (by kernel_rfl) (fun a => by kernel_rfl)

noncomputable def ref14_EncodeCertTBS_S (N : Nat) : Sig := .of [Sq18] [.cell false .str, .cell false (.int .i64)] (fun a => ref14_EncodeCertTBS N a)
theorem ref14_EncodeCertTBS_spec (N : Nat) : Spec Tryz.prog 49 (ref14_EncodeCertTBS_S N) := spec_of_exe (C := ctx Tryz.prog [(71, ref14_CheckCert_S N), (60, ref07_EncodeName_S N), (61, ref01_EncodeTime_S N), (72, ref14_EncodeKey_S N), (73, ref14_extensions_S N), (66, ref14_number_S N), (74, ref07_Wrap_S N), (67, ref14_Algorithm_S N), (63, ref07_Fit_S N)] []) (L := ⟨[], []⟩) (fn := Tryz.f49) (N := N) (ctx_ok ⟨ref14_CheckCert_spec N, ref07_EncodeName_spec N, ref01_EncodeTime_spec N, ref14_EncodeKey_spec N, ref14_extensions_spec N, ref14_number_spec N, ref07_Wrap_spec N, ref14_Algorithm_spec N, ref07_Fit_spec N, trivial⟩) (by kernel_rfl) (by kernel_rfl) (fun a => by kernel_rfl)

end Go.Proofs.YtnllccjmbijjlaaGreat.Vm

/-
  The functions of the program compute what is printed of them.
-/
namespace Go.Proofs.YtnllccjmbijjlaaGreat.Vm
open Go.Proofs
noncomputable def made_Sealed_S (N : Nat) : Sig := .of [Sq18] [.cell false .str] (fun a => made_Sealed N a)
theorem made_Sealed_spec (N : Nat) : Spec Tryz.prog 31 (made_Sealed_S N) := spec_of_exe (C := ctx Tryz.prog [(49, ref14_EncodeCertTBS_S N), (43, ref14_Seal_S N)] []) (L := ⟨[], []⟩) (fn := Tryz.f31) (N := N) (ctx_ok ⟨ref14_EncodeCertTBS_spec N, ref14_Seal_spec N, trivial⟩) (by kernel_rfl) (by kernel_rfl) (fun a => by kernel_rfl)

end Go.Proofs.YtnllccjmbijjlaaGreat.Vm

/-
  The functions of the program compute what is printed of them.
-/
namespace Go.Proofs.YtnllccjmbijjlaaGreat.Vm
open Go.Proofs
noncomputable def law20_item_S (N : Nat) : Sig := .of [Sq6] [.cell false .str] (fun a => law20_item N a)
theorem law20_item_spec (N : Nat) : Spec Tryz.prog 15 (law20_item_S N) := spec_of_exe (C := ctx Tryz.prog [(14, made_Deck_Next_S N), (6, made_New_S N), (30, made_List_S N), (29, made_SealedList_S N), (32, made_Cert_S N), (31, made_Sealed_S N)] []) (L := ⟨[], []⟩) (fn := Tryz.f15) (N := N) (ctx_ok ⟨made_Deck_Next_spec N, made_New_spec N, made_List_spec N, made_SealedList_spec N, made_Cert_spec N, made_Sealed_spec N, trivial⟩) (by kernel_rfl) (by kernel_rfl) (fun a => by kernel_rfl)

end Go.Proofs.YtnllccjmbijjlaaGreat.Vm

/-
  The functions of the program compute what is printed of them.
-/
namespace Go.Proofs.YtnllccjmbijjlaaGreat.Vm
open Go.Proofs
def law20_made_ns : List (Nat × Nrm) := [(3, ⟨[0, 2, 3], [], [], [(33637, 1004096), (1000000, 1004096)], []⟩), (11, ⟨[0, 2, 3], [], [], [(33638, 1012288), (1008192, 1012288)], []⟩), (14, ⟨[0, 2, 3, 4], [], [], [(33637, 1000000), (37888, 1000000)], []⟩), (19, ⟨[2, 3], [], [], [(33639, 1024576), (1016384, 1024576)], []⟩), (30, ⟨[0, 2, 3, 5], [], [], [(33638, 1008192), (41216, 1008192)], []⟩), (46, ⟨[0, 2, 3, 6], [], [], [(33639, 1016384), (47616, 1016384)], []⟩), (77, ⟨[0, 2, 3, 6, 7], [], [], [(33639, 1020480), (1016384, 1020480)], []⟩)]
def law20_made_L : Lk := ⟨[(77, ⟨[(0, .c (.c (.ptr 0 0))), (2, .c (.c (.ptr 33280 0))), (3, .c (.c (.ptr 33536 0))), (6, .i), (7, .c (.c (.ptr 34560 0)))], [(0, .box [(xl (.int .i64 .nil)), x64]), (33280, .box [(xo 33281), (xo 33282), (xo 33283)]), (33281, .arr0 9 false (.str .nil)), (33282, .arr0 9 false (.str .nil)), (33283, .arr0 41 false (.str (.str .nil))), (33536, .box [(xo 1004096), (xo 1012288), (xo 1020480)]), (34560, .box [xs, xs]), (1004096, .arr 9 false (.str .nil)), (1012288, .arr 9 false (.str .nil)), (1020480, .arr 41 false (.str (.str .nil)))]⟩)], [(14, ⟨[(0, .c (.c (.ptr 0 0))), (2, .c (.c (.ptr 33280 0))), (3, .c (.c (.ptr 33536 0))), (4, .c x64)], [(0, .box [(xl (.int .i64 .nil)), x64]), (33280, .box [(xo 33281), (xo 33282), (xo 33283)]), (33281, .arr0 9 false (.str .nil)), (33282, .arr0 9 false (.str .nil)), (33283, .arr0 41 false (.str (.str .nil))), (33536, .box [(xo 1000000), (xo 33638), (xo 33639)]), (33638, .arr0 9 false (.str .nil)), (33639, .arr0 41 false (.str (.str .nil))), (1000000, .arr 9 false (.str .nil))]⟩, [(0, ⟨[(0, .c (.c (.ptr 0 0))), (2, .c (.c (.ptr 33280 0))), (3, .c (.c (.ptr 33536 0)))], [(0, .box [(xl (.int .i64 .nil)), x64]), (33280, .box [(xo 33281), (xo 33282), (xo 33283)]), (33281, .arr0 9 false (.str .nil)), (33282, .arr0 9 false (.str .nil)), (33283, .arr0 41 false (.str (.str .nil))), (33536, .box [(xo 1004096), (xo 33638), (xo 33639)]), (33638, .arr0 9 false (.str .nil)), (33639, .arr0 41 false (.str (.str .nil))), (1004096, .arr 9 false (.str .nil))]⟩)]), (30, ⟨[(0, .c (.c (.ptr 0 0))), (2, .c (.c (.ptr 33280 0))), (3, .c (.c (.ptr 33536 0))), (5, .c x64)], [(0, .box [(xl (.int .i64 .nil)), x64]), (33280, .box [(xo 33281), (xo 33282), (xo 33283)]), (33281, .arr0 9 false (.str .nil)), (33282, .arr0 9 false (.str .nil)), (33283, .arr0 41 false (.str (.str .nil))), (33536, .box [(xo 1004096), (xo 1008192), (xo 33639)]), (33639, .arr0 41 false (.str (.str .nil))), (1004096, .arr 9 false (.str .nil)), (1008192, .arr 9 false (.str .nil))]⟩, [(2, ⟨[(0, .c (.c (.ptr 0 0))), (2, .c (.c (.ptr 33280 0))), (3, .c (.c (.ptr 33536 0)))], [(0, .box [(xl (.int .i64 .nil)), x64]), (33280, .box [(xo 33281), (xo 33282), (xo 33283)]), (33281, .arr0 9 false (.str .nil)), (33282, .arr0 9 false (.str .nil)), (33283, .arr0 41 false (.str (.str .nil))), (33536, .box [(xo 1004096), (xo 1012288), (xo 33639)]), (33639, .arr0 41 false (.str (.str .nil))), (1004096, .arr 9 false (.str .nil)), (1012288, .arr 9 false (.str .nil))]⟩)]), (46, ⟨[(0, .c (.c (.ptr 0 0))), (2, .c (.c (.ptr 33280 0))), (3, .c (.c (.ptr 33536 0))), (6, .c x64)], [(0, .box [(xl (.int .i64 .nil)), x64]), (33280, .box [(xo 33281), (xo 33282), (xo 33283)]), (33281, .arr0 9 false (.str .nil)), (33282, .arr0 9 false (.str .nil)), (33283, .arr0 41 false (.str (.str .nil))), (33536, .box [(xo 1004096), (xo 1012288), (xo 1016384)]), (1004096, .arr 9 false (.str .nil)), (1012288, .arr 9 false (.str .nil)), (1016384, .arr 41 false (.str (.str .nil)))]⟩, [(4, ⟨[(2, .c (.c (.ptr 33280 0))), (3, .c (.c (.ptr 33536 0)))], [(0, .box [(xl (.int .i64 .nil)), x64]), (33280, .box [(xo 33281), (xo 33282), (xo 33283)]), (33281, .arr0 9 false (.str .nil)), (33282, .arr0 9 false (.str .nil)), (33283, .arr0 41 false (.str (.str .nil))), (33536, .box [(xo 1004096), (xo 1012288), (xo 1024576)]), (1004096, .arr 9 false (.str .nil)), (1012288, .arr 9 false (.str .nil)), (1024576, .arr 41 false (.str (.str .nil)))]⟩)])]⟩
noncomputable def law20_made_S (N : Nat) : Sig := .of [Sq6] [Sq1] (fun a => law20_made N a)
theorem law20_made_spec (N : Nat) : Spec Tryz.prog 7 (law20_made_S N) := spec_of_exe (C := ctx Tryz.prog [(14, made_Deck_Next_S N), (15, law20_item_S N)] law20_made_ns) (L := law20_made_L) (fn := Tryz.f7) (N := N) (ctx_ok ⟨made_Deck_Next_spec N, law20_item_spec N, trivial⟩) (by kernel_rfl) (by kernel_rfl) (fun a => by kernel_rfl)

end Go.Proofs.YtnllccjmbijjlaaGreat.Vm

/-
  The functions of the program compute what is printed of them.
-/
namespace Go.Proofs.YtnllccjmbijjlaaGreat.Vm
open Go.Proofs
def law20_BundleMerge_ns : List (Nat × Nrm) := [(3, ⟨[3, 8, 9, 10], [], [], [(35429, 1004096), (1000000, 1004096)], []⟩), (11, ⟨[], [], [], [], []⟩), (30, ⟨[2, 3, 8, 9, 10, 11], [], [], [(35429, 1000000), (44288, 1000000)], []⟩), (46, ⟨[61, 62, 63], [], [], [], []⟩)]
def law20_BundleMerge_L : Lk := ⟨[], [(30, ⟨[(2, .i), (3, .c (.c (.ptr 33536 0))), (8, .c (.c (.ptr 34816 0))), (9, .c (.c (.ptr 35072 0))), (10, .c (.c (.ptr 35328 0))), (11, .c x64)], [(33536, .box [(xl (.str .nil)), (xl (.str .nil)), (xl (.str (.str .nil)))]), (34816, .box [(xl (.str .nil)), (xl (.str .nil)), (xl (.str (.str .nil)))]), (35072, .box [(xl (.str .nil)), (xl (.str .nil)), (xl (.str (.str .nil)))]), (35328, .box [(xo 1000000), (xo 35430), (xo 35431)]), (35430, .arr0 9 false (.str .nil)), (35431, .arr0 41 false (.str (.str .nil))), (1000000, .arr 9 false (.str .nil))]⟩, [(0, ⟨[(3, .c (.c (.ptr 33536 0))), (8, .c (.c (.ptr 34816 0))), (9, .c (.c (.ptr 35072 0))), (10, .c (.c (.ptr 35328 0)))], [(33536, .box [(xl (.str .nil)), (xl (.str .nil)), (xl (.str (.str .nil)))]), (34816, .box [(xl (.str .nil)), (xl (.str .nil)), (xl (.str (.str .nil)))]), (35072, .box [(xl (.str .nil)), (xl (.str .nil)), (xl (.str (.str .nil)))]), (35328, .box [(xo 1004096), (xo 35430), (xo 35431)]), (35430, .arr0 9 false (.str .nil)), (35431, .arr0 41 false (.str (.str .nil))), (1004096, .arr 9 false (.str .nil))]⟩)]), (46, ⟨[(61, .c (xo 48384)), (62, .i), (63, .c x64)], [(48384, .arr 33 false (.sl 25 Tq6 .nil))]⟩, [(2, ⟨[], []⟩)])]⟩
noncomputable def law20_BundleMerge_S (N : Nat) : Sig := .of [Sq1, Sq5, .cell false (.int .u8)] [.cell false .bool] (fun a => law20_BundleMerge N a.1 a.2.1 a.2.2)
theorem law20_BundleMerge_spec (N : Nat) : Spec Tryz.prog 3 (law20_BundleMerge_S N) := spec_of_exe (C := ctx Tryz.prog [(4, law20_short_S N), (5, law20_awake_S N), (6, made_New_S N), (7, law20_made_S N), (8, bundle_Merge_S N), (9, ref14_Merge_S N), (10, ref14_SameBundle_S N)] law20_BundleMerge_ns) (L := law20_BundleMerge_L) (fn := Tryz.f3) (N := N) (ctx_ok ⟨law20_short_spec N, law20_awake_spec N, made_New_spec N, law20_made_spec N, bundle_Merge_spec N, ref14_Merge_spec N, ref14_SameBundle_spec N, trivial⟩) (by kernel_rfl) (by kernel_rfl) (fun a => by kernel_rfl)

end Go.Proofs.YtnllccjmbijjlaaGreat.Vm

/-
  Laws by which the printed functions are reasoned about. No program in sight.
-/
namespace Go.Proofs.YtnllccjmbijjlaaGreat.Vm
open Go

/-! ### numbers -/
theorem w64 {x : Int} (h1 : -9223372036854775808 ≤ x) (h2 : x ≤ 9223372036854775807) : IntKind.i64.wrap x = x := by
  have e : IntKind.i64.wrap x = if 9223372036854775808 ≤ x % 18446744073709551616 then x % 18446744073709551616 - 18446744073709551616 else x % 18446744073709551616 := by
    show (if (true && decide (x % 18446744073709551616 ≥ 9223372036854775808)) = true then _ else _) = _
    simp only [Bool.true_and, decide_eq_true_eq, ge_iff_le]
    rfl
  rw [e]
  split <;> omega
theorem w8 (x : Int) : IntKind.u8.wrap x = x % 256 := by
  have hp : (2 : Int) ^ 8 = 256 := by decide
  simp only [IntKind.wrap, IntKind.bits, IntKind.signed, Bool.false_and, Bool.false_eq_true, if_false, hp]
theorem isByte_w8 (x : Int) : isByte (IntKind.u8.wrap x) = true := by
  rw [w8]; unfold isByte; simp; omega
theorem wu64 {x : Int} (h1 : 0 ≤ x) (h2 : x ≤ 18446744073709551615) : IntKind.u64.wrap x = x := by
  have hp : (2 : Int) ^ 64 = 18446744073709551616 := by decide
  simp only [IntKind.wrap, IntKind.bits, IntKind.signed, Bool.false_and, Bool.false_eq_true, if_false, hp]
  omega
theorem and31 (a : Nat) (h : a < 256) : bitsI .and .i64 (a : Int) 31 = ((a % 32 : Nat) : Int) := by
  have : ∀ a : Fin 256, bitsI .and .i64 ((a.val : Nat) : Int) 31 = ((a.val % 32 : Nat) : Int) := by decide +kernel
  exact this ⟨a, h⟩
theorem and32 (a : Nat) (h : a < 256) : bitsI .and .i64 (a : Int) 32 = ((if a / 32 % 2 = 1 then 32 else 0 : Nat) : Int) := by
  have : ∀ a : Fin 256, bitsI .and .i64 ((a.val : Nat) : Int) 32 = ((if a.val / 32 % 2 = 1 then 32 else 0 : Nat) : Int) := by decide +kernel
  exact this ⟨a, h⟩
theorem or8 (t b : Nat) (ht : t < 36028797018963968) (hb : b < 256) : bitsI .or .i64 (((t * 256 : Nat)) : Int) (b : Int) = ((t * 256 + b : Nat) : Int) := by
  have e : ∀ n : Nat, n < 2 ^ 64 → (BitVec.ofInt 64 (n : Int)) = BitVec.ofNat 64 n := fun n _ => by simp
  show IntKind.i64.wrap _ = _
  rw [show (BitVec.ofInt (IntKind.i64).bits ((t * 256 : Nat) : Int)) = BitVec.ofNat 64 (t * 256) from e _ (by omega), show (BitVec.ofInt (IntKind.i64).bits ((b : Nat) : Int)) = BitVec.ofNat 64 b from e _ (by omega)]
  show IntKind.i64.wrap (((BitVec.ofNat 64 (t * 256)) ||| (BitVec.ofNat 64 b)).toNat : Int) = _
  rw [BitVec.toNat_or, BitVec.toNat_ofNat, BitVec.toNat_ofNat, Nat.mod_eq_of_lt (by omega), Nat.mod_eq_of_lt (by omega)]
  rw [show t * 256 = t <<< 8 by rw [Nat.shiftLeft_eq], ← Nat.shiftLeft_add_eq_or_of_lt (by omega : b < 2 ^ 8), Nat.shiftLeft_eq]
  exact w64 (by omega) (by omega)

/-! ### tests -/
theorem chk_if {ρ : Type} (p : Prop) [Decidable p] (k : Option ρ) : chk (decide p) k = if p then k else none := by
  by_cases h : p <;> simp [chk, h]
theorem chk_t {ρ : Type} (k : Option ρ) : chk true k = k := rfl
theorem chk_or {ρ : Type} (b : Bool) (k : Option ρ) : chk (!b || !!b) k = k := by cases b <;> rfl
theorem chk_or' {ρ : Type} (b : Bool) (k : Option ρ) : chk (b || !b) k = k := by cases b <;> rfl
theorem chk_bif {ρ : Type} (b : Bool) (k : Option ρ) : chk (bif b then true else !b) k = k := by cases b <;> rfl
theorem chk_bif' {ρ : Type} (b : Bool) (k : Option ρ) : chk (bif b then true else true) k = k := by cases b <;> rfl
theorem chk_bif'' {ρ : Type} (b : Bool) (k : Option ρ) : chk (bif b then b else true) k = k := by cases b <;> rfl
theorem bif_or (a b : Bool) : (bif a then true else b) = (a || b) := by cases a <;> rfl
theorem bif_and (a b : Bool) : (bif a then b else false) = (a && b) := by cases a <;> rfl
theorem bif_if {α : Type} (p : Prop) [Decidable p] (a b : α) : (bif decide p then a else b) = if p then a else b := by by_cases h : p <;> simp [h]
theorem chk_ort {ρ : Type} (b : Bool) (k : Option ρ) : chk (b || true) k = k := by cases b <;> rfl
theorem bif_ite {α : Type} (b : Bool) (x y : α) : (bif b then x else y) = if b = true then x else y := by cases b <;> rfl
theorem chk_ite {ρ : Type} (b : Bool) (k : Option ρ) : chk b k = if b = true then k else none := by cases b <;> rfl
theorem callO_s {α ρ : Type} [Inhabited α] (a : α) (k : α → Option ρ) : callO (some a) k = k a := rfl
theorem letJ_eq {α ρ : Type} (A : (α → Option ρ) → Option ρ) (f : α → Option ρ) : letJ A f = A f := rfl

theorem letJ_post {α ρ : Type} {A : (α → Option ρ) → Option ρ} {f : α → Option ρ} (P : α → Prop) (Q : Option ρ → Prop) (hA : ∀ j : α → Option ρ, (∀ x, P x → Q (j x)) → Q (A j)) (hf : ∀ x, P x → Q (f x)) : Q (letJ A f) := hA f hf

/-! ### loops -/
theorem iterG_s {X Y ρ : Type} (B : X → (X → Option ρ) → (Y → Option ρ) → Option ρ) (n : Nat) (x : X) (kx : Y → Option ρ) : iterG B (n + 1) x kx = B x (fun x' => iterG B n x' kx) kx := rfl
theorem iterG_of {X Y ρ : Type} {B : X → (X → Option ρ) → (Y → Option ρ) → Option ρ} {kx : Y → Option ρ} (I : X → Prop) (μ : X → Nat) (F : X → Option ρ)
    (h : ∀ x, I x → ∀ k : X → Option ρ, (∀ x', I x' → μ x' < μ x → k x' = F x') → B x k kx = F x) : ∀ (N : Nat) (x : X), I x → μ x < N → iterG B N x kx = F x := by
  intro N
  induction N with
  | zero => intro x _ h; omega
  | succ N ih => intro x hI hm; exact h x hI _ (fun x' hI' hm' => ih x' hI' (by omega))
/-- what holds of the end holds of the loop -/
theorem iterG_post {X Y ρ : Type} {B : X → (X → Option ρ) → (Y → Option ρ) → Option ρ} {kx : Y → Option ρ} (I : X → Prop) (μ : X → Nat) (Q : Option ρ → Prop)
    (h : ∀ x, I x → ∀ k : X → Option ρ, (∀ x', I x' → μ x' < μ x → Q (k x')) → Q (B x k kx)) : ∀ (N : Nat) (x : X), I x → μ x < N → Q (iterG B N x kx) := by
  intro N
  induction N with
  | zero => intro x _ h; omega
  | succ N ih => intro x hI hm; exact h x hI _ (fun x' hI' hm' => ih x' hI' (by omega))
/-- over a list -/
def eachG {E S ρ : Type} (step : E → S → (S → Option ρ) → Option ρ) (fin : S → Option ρ) : List E → S → Option ρ
  | [], s => fin s
  | e :: r, s => step e s (fun s' => eachG step fin r s')
theorem iterG_each {X Y S E ρ : Type} {B : X → (X → Option ρ) → (Y → Option ρ) → Option ρ} {kx : Y → Option ρ} (mk : Int → S → X) (l : List E) (d : E) (step : E → S → (S → Option ρ) → Option ρ) (fin : S → Option ρ)
    (h : ∀ (i : Nat) (s : S) (k : X → Option ρ), i < l.length → B (mk (i : Int) s) k kx = step (l.getD i d) s (fun s' => k (mk ((i : Int) + 1) s')))
    (hend : ∀ (s : S) (k : X → Option ρ), B (mk (l.length : Int) s) k kx = fin s) (N : Nat) (s : S) (hN : l.length < N) : iterG B N (mk 0 s) kx = eachG step fin l s := by
  have key : ∀ (n i : Nat) (s : S) , i ≤ l.length → l.length - i < n → iterG B n (mk (i : Int) s) kx = eachG step fin (l.drop i) s := by
    intro n
    induction n with
    | zero => intro i s _ h; omega
    | succ n ih =>
      intro i s hi hn
      rw [iterG_s]
      by_cases hl : i < l.length
      · rw [h i s _ hl, List.drop_eq_getElem_cons hl]
        show _ = step l[i] s (fun s' => eachG step fin (l.drop (i + 1)) s')
        rw [show l.getD i d = l[i] by simp [List.getD_eq_getElem?_getD, hl]]
        congr 1
        funext s'
        exact ih (i + 1) s' (by omega) (by omega)
      · have : i = l.length := by omega
        rw [this, hend, List.drop_length]; rfl
  exact key N 0 s (by omega) (by omega)
/-- the first that is wrong -/
def firstE {E : Type} (f : E → Int) : List E → Int
  | [] => 0
  | e :: r => if f e ≠ 0 then f e else firstE f r
theorem eachG_first {E S : Type} {ρ : Type} (f : E → Int) (ret : Int → Option ρ) (fin : S → Option ρ) (step : E → S → (S → Option ρ) → Option ρ) : ∀ (l : List E) (s : S), (∀ e ∈ l, ∀ s k, step e s k = if f e ≠ 0 then ret (f e) else k s) → eachG step fin l s = if firstE f l ≠ 0 then ret (firstE f l) else fin s := by
  intro l
  induction l with
  | nil => intro s _; rfl
  | cons e r ih =>
    intro s h
    show step e s _ = _
    rw [h e List.mem_cons_self]
    show _ = if (if f e ≠ 0 then f e else firstE f r) ≠ 0 then ret (if f e ≠ 0 then f e else firstE f r) else fin s
    by_cases he : f e = 0
    · have hn : ¬ (f e ≠ 0) := fun h => h he
      rw [if_neg hn, if_neg hn, ih s (fun e he => h e (List.mem_cons_of_mem _ he))]
    · rw [if_pos he, if_pos he, if_pos he]
end Go.Proofs.YtnllccjmbijjlaaGreat.Vm

/-
  Plain functions on bytes: elements of DER (reading, checking what is nested, writing), and laws among them. No program in sight.
-/
namespace Go.Proofs.YtnllccjmbijjlaaGreat.Sp

/-! ### reading the head of an element -/
def beNat (l : List UInt8) : Nat := l.foldl (fun v b => v * 256 + b.toNat) 0
def leastOf (k : Nat) : Nat := if k = 1 then 128 else 2 ^ (8 * (k - 1))
theorem beNat_snoc (l : List UInt8) (b : UInt8) : beNat (l ++ [b]) = beNat l * 256 + b.toNat := by simp [beNat, List.foldl_append]
theorem beNat_lt (l : List UInt8) : beNat l < 256 ^ l.length := by
  have h : ∀ (l : List UInt8) (v h : Nat), v < h → l.foldl (fun v b => v * 256 + b.toNat) v < h * 256 ^ l.length := by
    intro l
    induction l with
    | nil => intro v h hv; simpa using hv
    | cons b r ih =>
      intro v h hv
      have hb := b.toNat_lt
      have := ih (v * 256 + b.toNat) (h * 256) (by omega)
      rw [List.foldl_cons, List.length_cons, Nat.pow_succ]
      rw [Nat.mul_comm (256 ^ r.length) 256, ← Nat.mul_assoc]; exact this
  have := h l 0 1 (by omega)
  simpa [beNat] using this

/-- the head: an error, or where the contents begin and how long they are -/
def head (l : List UInt8) : Int × Nat × Nat :=
  match l with
  | [] => (3, 0, 0)
  | t :: r =>
    if t.toNat % 32 = 31 then (5, 0, 0) else
    match r with
    | [] => (3, 0, 0)
    | n :: r =>
      if n.toNat < 128 then (0, 2, n.toNat) else
      if n.toNat = 128 ∨ 131 < n.toNat then (6, 0, 0) else
      if r.length < n.toNat - 128 then (3, 0, 0) else
      if beNat (r.take (n.toNat - 128)) < leastOf (n.toNat - 128) ∨ 131072 < beNat (r.take (n.toNat - 128)) then (6, 0, 0) else
      (0, 2 + (n.toNat - 128), beNat (r.take (n.toNat - 128)))
def rd (l : List UInt8) : Int × Nat × Nat := if (head l).1 = 0 ∧ l.length - (head l).2.1 < (head l).2.2 then (3, 0, 0) else head l
def err (l : List UInt8) : Int := (rd l).1
def tag (l : List UInt8) : Nat := (l.headD 0).toNat
def content (l : List UInt8) : List UInt8 := (l.drop (rd l).2.1).take (rd l).2.2
def raw (l : List UInt8) : List UInt8 := l.take ((rd l).2.1 + (rd l).2.2)
def rest (l : List UInt8) : List UInt8 := l.drop ((rd l).2.1 + (rd l).2.2)
theorem head_ok (l : List UInt8) (h : (head l).1 = 0) : 2 ≤ (head l).2.1 ∧ (head l).2.1 ≤ l.length ∧ (head l).2.1 ≤ 5 ∧ (head l).2.2 ≤ 131072 := by
  unfold head at *
  split at h
  · simp at h
  · split at h
    · simp at h
    · split at h
      · simp at h
      · split at h
        · simp only [*, if_true, if_false, List.length_cons]; omega
        · split at h
          · simp at h
          · split at h
            · simp at h
            · split at h
              · simp at h
              · simp only [*, if_false, List.length_cons]; omega
theorem rd_ok (l : List UInt8) (h : err l = 0) : 2 ≤ (rd l).2.1 ∧ (rd l).2.1 + (rd l).2.2 ≤ l.length ∧ (rd l).2.1 ≤ 5 ∧ (rd l).2.2 ≤ 131072 := by
  unfold err rd at *
  by_cases hc : (head l).1 = 0 ∧ l.length - (head l).2.1 < (head l).2.2
  · rw [if_pos hc] at h; simp at h
  · rw [if_neg hc] at h ⊢
    have := head_ok l h
    omega
theorem err_cases (l : List UInt8) : err l = 0 ∨ err l = 3 ∨ err l = 5 ∨ err l = 6 := by
  unfold err rd
  split
  · simp
  · unfold head
    split
    · simp
    · split
      · simp
      · split
        · simp
        · split
          · simp
          · split
            · simp
            · split
              · simp
              · split <;> simp
theorem rest_lt (l : List UInt8) (h : err l = 0) : (rest l).length < l.length := by
  have := rd_ok l h
  unfold rest; rw [List.length_drop]; omega
theorem content_lt (l : List UInt8) (h : err l = 0) : (content l).length < l.length := by
  have := rd_ok l h
  unfold content; rw [List.length_take, List.length_drop]; omega
theorem content_length (l : List UInt8) (h : err l = 0) : (content l).length = (rd l).2.2 := by
  have := rd_ok l h
  unfold content; rw [List.length_take, List.length_drop]; omega
theorem raw_length (l : List UInt8) (h : err l = 0) : (raw l).length = (rd l).2.1 + (rd l).2.2 := by
  have := rd_ok l h
  unfold raw; rw [List.length_take]; omega

/-! ### one element; what is nested in it -/
def oneErr (l : List UInt8) : Int := if err l ≠ 0 then err l else if rest l = [] then 0 else 4
def cons (t : Nat) : Bool := decide (t / 32 % 2 = 1)
/-- the first error in contents that lie in d elements (fuel: more than their length) -/
def within : Nat → Nat → List UInt8 → Int
  | 0, _, _ => 0
  | f + 1, d, l =>
    if l = [] then 0 else
    if err l ≠ 0 then err l else
    if 16 ≤ d then 8 else
    if (if cons (tag l) then within f (d + 1) (content l) else 0) ≠ 0 then (if cons (tag l) then within f (d + 1) (content l) else 0)
    else within f d (rest l)
def inner (f d : Nat) (t : Nat) (c : List UInt8) : Int := if cons t then within f d c else 0
theorem within_nil (f d : Nat) : within f d [] = 0 := by cases f <;> simp [within]
theorem within_err (f d : Nat) (l : List UInt8) (h : l ≠ []) (he : err l ≠ 0) : within (f + 1) d l = err l := by
  rw [within, if_neg h, if_pos he]
theorem within_deep (f d : Nat) (l : List UInt8) (h : l ≠ []) (he : err l = 0) (hd : 16 ≤ d) : within (f + 1) d l = 8 := by
  rw [within, if_neg h, if_neg (by simp [he]), if_pos hd]
theorem within_bad (f d : Nat) (l : List UInt8) (h : l ≠ []) (he : err l = 0) (hd : ¬ 16 ≤ d) (hi : inner f (d + 1) (tag l) (content l) ≠ 0) : within (f + 1) d l = inner f (d + 1) (tag l) (content l) := by
  rw [within, if_neg h, if_neg (by simp [he]), if_neg hd]
  unfold inner at hi ⊢
  rw [if_pos hi]
theorem within_step (f d : Nat) (l : List UInt8) (h : l ≠ []) (he : err l = 0) (hd : ¬ 16 ≤ d) (hi : inner f (d + 1) (tag l) (content l) = 0) : within (f + 1) d l = within f d (rest l) := by
  rw [within, if_neg h, if_neg (by simp [he]), if_neg hd]
  unfold inner at hi
  rw [if_neg (by simp [hi])]
def chk (l : List UInt8) : Int := if oneErr l ≠ 0 then oneErr l else inner (l.length + 1) 1 (tag l) (content l)
/-- a whole element that is a sequence -/
def seqErr (l : List UInt8) : Int := if chk l ≠ 0 then chk l else if tag l = 48 then 0 else 5

/-! ### writing -/
def lenBytes (n : Nat) : List UInt8 :=
  if n < 128 then [UInt8.ofNat n] else if n < 256 then [129, UInt8.ofNat n] else if n < 65536 then [130, UInt8.ofNat (n / 256), UInt8.ofNat n]
  else [131, UInt8.ofNat (n / 65536), UInt8.ofNat (n / 256), UInt8.ofNat n]
def elem (t : Nat) (c : List UInt8) : List UInt8 := UInt8.ofNat t :: lenBytes c.length ++ c
def wrap (t : Int) (c : List UInt8) : List UInt8 × Int :=
  if t < 0 ∨ 255 < t ∨ t % 32 = 31 then ([], 5) else if 131072 < c.length then ([], 6) else (elem t.toNat c, 0)
theorem lenBytes_length (n : Nat) : (lenBytes n).length ≤ 4 := by unfold lenBytes; split <;> (try split) <;> (try split) <;> simp
theorem elem_length (t : Nat) (c : List UInt8) : (elem t c).length ≤ c.length + 5 := by
  have := lenBytes_length c.length
  unfold elem; simp; omega
theorem wrap_length (t : Int) (c : List UInt8) : (wrap t c).1.length ≤ 131077 := by
  unfold wrap
  split
  · simp
  · split
    · simp
    · have := elem_length t.toNat c
      simp; omega
end Go.Proofs.YtnllccjmbijjlaaGreat.Sp

/-
  Elements: what reading them computes. No program in sight.
-/
namespace Go.Proofs.YtnllccjmbijjlaaGreat.Pl
open Go Vm

def elemP (l : Bs) : Int × Bs × Bs := ((Sp.tag l : Int), Sp.content l, Sp.raw l)
def readP (l : Bs) : (Int × Bs × Bs) × Bs × Int := if Sp.err l = 0 then (elemP l, Sp.rest l, 0) else ((0, [], []), [], Sp.err l)
theorem beNat1 (a : UInt8) : Sp.beNat [a] = a.toNat := by simp [Sp.beNat]
theorem beNat2 (a b : UInt8) : Sp.beNat [a, b] = a.toNat * 256 + b.toNat := by simp [Sp.beNat]
theorem beNat3 (a b c : UInt8) : Sp.beNat [a, b, c] = (a.toNat * 256 + b.toNat) * 256 + c.toNat := by simp [Sp.beNat]
/-- an end that both readers come to -/
theorem read_end {s : Bs} {p n : Nat} (hh : Sp.head s = (0, p, n)) (hp : p ≤ s.length) : (if ((s.length : Int) - p < n) then (some ((0, ([] : Bs), ([] : Bs)), ([] : Bs), 3) : Option ((Int × Bs × Bs) × Bs × Int)) else some ((((s.getD 0 0).toNat : Int), cutL s p (p + n), cutL s 0 (p + n)), cutL s (p + n) s.length, 0)) = some (readP s) := by
  have e1 : ∀ a b, (cutL s a b) = (s.take b).drop a := fun a b => rfl
  by_cases h : (s.length : Int) - p < n
  · rw [if_pos h]
    have : Sp.rd s = (3, 0, 0) := by unfold Sp.rd; rw [hh, if_pos ⟨rfl, by show s.length - p < n; omega⟩]
    unfold readP Sp.err; rw [this]; rfl
  · rw [if_neg h]
    have hr : Sp.rd s = (0, p, n) := by unfold Sp.rd; rw [hh, if_neg (by intro hc; have := hc.2; simp at this; omega)]
    have he : Sp.err s = 0 := by unfold Sp.err; rw [hr]
    unfold readP
    rw [if_pos he]
    unfold elemP Sp.content Sp.raw Sp.rest
    rw [hr, e1, e1, e1]
    congr 1
    refine Prod.ext (Prod.ext ?_ (Prod.ext ?_ ?_)) (Prod.ext ?_ rfl)
    · show ((s.getD 0 0).toNat : Int) = ((Sp.tag s : Nat) : Int)
      unfold Sp.tag; cases s <;> rfl
    · show (s.take (p + n)).drop p = (s.drop p).take n
      rw [List.drop_take]; congr 1; omega
    · show (s.take (p + n)).drop 0 = _
      rw [List.drop_zero]
    · show (s.take s.length).drop (p + n) = _
      rw [List.take_length]
theorem take_snoc {α : Type} {l : List α} {i : Nat} (h : i < l.length) : l.take (i + 1) = l.take i ++ [l[i]] := by
  rw [List.take_add_one, List.getElem?_eq_getElem h]; rfl
theorem beNat_take {l : Bs} {i : Nat} (h : i < l.length) : Sp.beNat (l.take (i + 1)) = Sp.beNat (l.take i) * 256 + (l[i]).toNat := by
  rw [take_snoc h, Sp.beNat_snoc]
theorem beNat_small {l : Bs} (i : Nat) (hl : l.length ≤ 3) : Sp.beNat (l.take i) < 16777216 := by
  have h1 := Sp.beNat_lt (l.take i)
  have h2 : 256 ^ (l.take i).length ≤ 256 ^ 3 := Nat.pow_le_pow_right (by omega) (by rw [List.length_take]; omega)
  have : (256 : Nat) ^ 3 = 16777216 := by decide
  omega
theorem dig_loop {ρ : Type} (N : Nat) (l : Bs) (hl : l.length ≤ 3) (hN : 4 < N) (kx : Int → Option ρ) :
    iterG (X := Int × Int × List Int) (Y := Int) (U3 fun t7b t52b l45568b k2 x3 =>
      if t52b < ((List.map (fun (b : UInt8) => ((b.toNat : Int))) l).length : Int) then if (0 : Int) ≤ t52b then if t52b < (l45568b.length : Int) then if t52b.toNat < l45568b.length then
        k2 (bitsI .or .i64 (IntKind.i64.wrap (t7b * (256))) (IntKind.i64.wrap (l45568b.getD t52b.toNat 0)), IntKind.i64.wrap (t52b + (1 : Int)), l45568b) else none else none else none
      else x3 t7b) N (0, 0, List.map (fun (b : UInt8) => ((b.toNat : Int))) l) kx = kx (Sp.beNat l) := by
  refine iterG_of (fun x => ∃ i, i ≤ l.length ∧ x = ((Sp.beNat (l.take i) : Int), (i : Int), List.map (fun (b : UInt8) => ((b.toNat : Int))) l)) (fun x => l.length - x.2.1.toNat) (fun _ => kx (Sp.beNat l)) ?_ N _ ⟨0, by omega, rfl⟩ (by show l.length - 0 < N; omega)
  rintro x ⟨i, hi, rfl⟩ k hk
  show (if (i : Int) < _ then _ else _) = _
  rw [List.length_map]
  by_cases h : i < l.length
  · dsimp only
    rw [if_pos (by omega), if_pos (by omega), if_pos (by omega), Int.toNat_natCast, if_pos h]
    have hb := (l[i]).toNat_lt
    have hs := beNat_small (l := l) i hl
    rw [show (List.map (fun (b : UInt8) => ((b.toNat : Int))) l).getD i 0 = ((l[i].toNat : Nat) : Int) by simp [List.getD_eq_getElem?_getD, h]]
    rw [w64 (x := ((Sp.beNat (l.take i) : Nat) : Int) * 256) (by omega) (by omega), w64 (x := ((l[i].toNat : Nat) : Int)) (by omega) (by omega), w64 (x := (i : Int) + 1) (by omega) (by omega)]
    rw [show ((Sp.beNat (l.take i) : Nat) : Int) * 256 = ((Sp.beNat (l.take i) * 256 : Nat) : Int) by omega, or8 _ _ (by omega) hb, ← beNat_take h]
    exact hk _ ⟨i + 1, h, rfl⟩ (by show l.length - ((i : Int) + 1).toNat < l.length - (i : Int).toNat; omega)
  · rw [if_neg (by omega)]
    rw [List.take_of_length_le (by omega)]
theorem least_eq (N : Nat) (k : Nat) (h1 : 1 ≤ k) (h3 : k ≤ 3) : tlv_least N (k : Int) = some (Sp.leastOf k : Int) := by
  have : k = 1 ∨ k = 2 ∨ k = 3 := by omega
  rcases this with rfl | rfl | rfl <;> rfl
set_option maxRecDepth 4000
theorem tlv_Read_eq (N : Nat) (s : Bs) (hN : 4 < N) (hs : s.length ≤ 1099511627776) : tlv_Read N s = some (readP s) := by
  unfold tlv_Read
  cases s with
  | nil => rfl
  | cons a r =>
    have ha := a.toNat_lt
    have h0 : ((a :: r : Bs) == ([] : Bs)) = false := rfl
    simp only [h0, cond_false, List.getD_cons_zero, List.length_cons, chk_or, chk_or', chk_ort, bif_or]
    simp only [chk_ite, bif_ite, beq_iff_eq, decide_eq_true_eq, Bool.or_eq_true, Bool.and_eq_true]
    rw [w64 (by omega) (by omega), and31 _ ha]
    by_cases h31 : a.toNat % 32 = 31
    · have : Sp.err (a :: r) = 5 := by simp [Sp.err, Sp.rd, Sp.head, h31]
      unfold readP
      rw [this, if_pos (by omega), if_pos (by omega)]
      rfl
    · rw [if_pos (by omega), if_neg (by omega)]
      cases r with
      | nil =>
        have : Sp.err [a] = 3 := by simp [Sp.err, Sp.rd, Sp.head, h31]
        unfold readP
        rw [this, if_pos (by simp)]
        rfl
      | cons b c =>
        have hb := b.toNat_lt
        simp only [List.length_cons] at hs
        simp only [List.getD_cons_succ, List.getD_cons_zero, List.length_cons]
        rw [w64 (x := ((b.toNat : Nat) : Int)) (by omega) (by omega), if_neg (by omega), if_pos (by omega)]
        by_cases h6 : b.toNat = 128 ∨ 131 < b.toNat
        · have : Sp.err (a :: b :: c) = 6 := by simp [Sp.err, Sp.rd, Sp.head, h31, h6, show ¬ b.toNat < 128 by omega]
          unfold readP
          rw [this, if_pos (by omega)]
          rfl
        · rw [if_neg (by omega), letJ_eq]
          -- the end, from where the contents begin and how long they are
          have hend : ∀ p n : Nat, Sp.head (a :: b :: c) = (0, p, n) → p ≤ c.length + 2 → n ≤ 131072 → (if IntKind.i64.wrap (((c.length + 1 + 1 : Nat) : Int) - (p : Int)) < (n : Int) then some ((0, ([] : Bs), ([] : Bs)), ([] : Bs), 3)
              else if (0 : Int) ≤ (p : Int) then if (p : Int) ≤ IntKind.i64.wrap ((p : Int) + (n : Int)) then if IntKind.i64.wrap ((p : Int) + (n : Int)) ≤ ((c.length + 1 + 1 : Nat) : Int) then if (0 : Int) ≤ IntKind.i64.wrap ((p : Int) + (n : Int)) then
                if IntKind.i64.wrap ((p : Int) + (n : Int)) ≤ ((c.length + 1 + 1 : Nat) : Int) then if (0 : Int) ≤ IntKind.i64.wrap ((p : Int) + (n : Int)) then if IntKind.i64.wrap ((p : Int) + (n : Int)) ≤ ((c.length + 1 + 1 : Nat) : Int) then
                some ((((a.toNat : Nat) : Int), cutL (a :: b :: c) (p : Int).toNat (IntKind.i64.wrap ((p : Int) + (n : Int))).toNat, cutL (a :: b :: c) 0 (IntKind.i64.wrap ((p : Int) + (n : Int))).toNat), cutL (a :: b :: c) (IntKind.i64.wrap ((p : Int) + (n : Int))).toNat (c.length + 1 + 1), 0)
                else none else none else none else none else none else none else none : Option ((Int × Bs × Bs) × Bs × Int)) = some (readP (a :: b :: c)) := by
            intro p n hh hp hn
            have := read_end (s := a :: b :: c) hh (by simp; omega)
            rw [w64 (x := ((c.length + 1 + 1 : Nat) : Int) - (p : Int)) (by omega) (by omega), w64 (x := (p : Int) + (n : Int)) (by omega) (by omega)]
            rw [← this]
            show (if ((c.length + 1 + 1 : Nat) : Int) - (p : Int) < (n : Int) then _ else _) = (if ((c.length + 1 + 1 : Nat) : Int) - (p : Int) < (n : Int) then _ else _)
            by_cases hlt : ((c.length + 1 + 1 : Nat) : Int) - (p : Int) < (n : Int)
            · rw [if_pos hlt, if_pos hlt]
            · rw [if_neg hlt, if_neg hlt, if_pos (by omega), if_pos (by omega), if_pos (by omega), if_pos (by omega), if_pos (by omega), if_pos (by omega), if_pos (by omega)]
              rw [show ((p : Int) + (n : Int)).toNat = p + n by omega, Int.toNat_natCast]
              rfl
          by_cases h128 : b.toNat < 128
          · rw [if_neg (by omega)]
            exact hend 2 b.toNat (by simp [Sp.head, h31, h128]) (by omega) (by omega)
          · rw [if_pos (by omega)]
            obtain ⟨k, hk⟩ : ∃ k : Nat, b.toNat = 128 + k := ⟨b.toNat - 128, by omega⟩
            rw [w64 (x := ((b.toNat : Nat) : Int) - 128) (by omega) (by omega), show ((b.toNat : Nat) : Int) - 128 = (k : Int) by omega, w64 (x := 2 + (k : Int)) (by omega) (by omega)]
            by_cases hlen : c.length < k
            · rw [if_pos (by omega)]
              have : Sp.err (a :: b :: c) = 3 := by simp [Sp.err, Sp.rd, Sp.head, h31, h128, h6, show b.toNat - 128 = k by omega, hlen]
              unfold readP
              rw [this]
              rfl
            · have hcut : cutL (a :: b :: c) 2 ((2 + (k : Int)).toNat) = c.take k := by
                rw [show (2 + (k : Int)).toNat = k + 2 by omega]; rfl
              have hlk : (c.take k).length = k := by rw [List.length_take]; omega
              rw [if_neg (by omega), if_pos (by omega), if_pos (by omega), hcut, if_pos (by omega)]
              rw [dig_loop N (c.take k) (by omega) hN, least_eq N k (by omega) (by omega), callO_s]
              by_cases hbad : Sp.beNat (c.take k) < Sp.leastOf k ∨ 131072 < Sp.beNat (c.take k)
              · have : Sp.err (a :: b :: c) = 6 := by simp [Sp.err, Sp.rd, Sp.head, h31, h128, h6, show b.toNat - 128 = k by omega, hlen, hbad]
                unfold readP
                rw [if_pos (by omega), this]
                rfl
              · rw [if_neg (by omega)]
                have := hend (2 + k) (Sp.beNat (c.take k)) (by simp [Sp.head, h31, h128, h6, show b.toNat - 128 = k by omega, hlen, hbad]) (by omega) (by omega)
                rw [show (((2 + k : Nat)) : Int) = 2 + (k : Int) by omega] at this
                exact this
theorem dig_loop_ref {ρ : Type} (N : Nat) (s : Bs) (k : Nat) (hk : k ≤ 3) (hl : k + 2 ≤ s.length) (hs : s.length ≤ 1099511627776) (hN : 4 < N) (kx : Int → Option ρ) :
    iterG (X := Int × Int) (Y := Int) (U2 fun t6b t9b k2 x3 =>
      if t9b < (k : Int) then if (0 : Int) ≤ IntKind.i64.wrap ((2 : Int) + t9b) then if IntKind.i64.wrap ((2 : Int) + t9b) < (s.length : Int) then
        k2 (IntKind.i64.wrap ((IntKind.i64.wrap ((256 : Int) * t6b)) + IntKind.i64.wrap ((s.getD ((IntKind.i64.wrap ((2 : Int) + t9b)).toNat) 0).toNat : Int)), IntKind.i64.wrap (t9b + (1 : Int))) else none else none
      else x3 t6b) N (0, 0) kx = kx (Sp.beNat ((s.drop 2).take k)) := by
  have hlen : ((s.drop 2).take k).length = k := by rw [List.length_take, List.length_drop]; omega
  generalize hL : (s.drop 2).take k = l at hlen
  refine iterG_of (fun x => ∃ i, i ≤ k ∧ x = ((Sp.beNat (l.take i) : Int), (i : Int))) (fun x => k - x.2.toNat) (fun _ => kx (Sp.beNat l)) ?_ N _ ⟨0, by omega, rfl⟩ (by show k - 0 < N; omega)
  rintro x ⟨i, hi, rfl⟩ kk hkk
  show (if (i : Int) < _ then _ else _) = _
  by_cases h : i < k
  · have hb := (l[i]'(by omega)).toNat_lt
    have hs' := beNat_small (l := l) i (by omega)
    dsimp only
    rw [if_pos (by omega), w64 (x := 2 + (i : Int)) (by omega) (by omega), if_pos (by omega), if_pos (by omega), show (2 + (i : Int)).toNat = i + 2 by omega]
    have e : s.getD (i + 2) 0 = l[i]'(by omega) := by
      have : l[i]? = s[i + 2]? := by rw [← hL, List.getElem?_take, if_pos h, List.getElem?_drop, Nat.add_comm]
      rw [List.getD_eq_getElem?_getD, ← this, List.getElem?_eq_getElem (by omega)]; rfl
    rw [e, w64 (x := 256 * ((Sp.beNat (l.take i) : Nat) : Int)) (by omega) (by omega), w64 (x := (((l[i]'(by omega)).toNat : Nat) : Int)) (by omega) (by omega), w64 (x := (i : Int) + 1) (by omega) (by omega), w64 (by omega) (by omega)]
    have := beNat_take (l := l) (i := i) (by omega)
    rw [show 256 * ((Sp.beNat (l.take i) : Nat) : Int) + (((l[i]'(by omega)).toNat : Nat) : Int) = ((Sp.beNat (l.take (i + 1)) : Nat) : Int) by omega]
    exact hkk _ ⟨i + 1, h, rfl⟩ (by show k - ((i : Int) + 1).toNat < k - (i : Int).toNat; omega)
  · rw [if_neg (by omega), List.take_of_length_le (by omega)]
theorem least_ref (k : Nat) (h1 : 1 ≤ k) (h3 : k ≤ 3) : (([0, 128, 256, 65536] : List Int).getD k 0) = (Sp.leastOf k : Int) := by
  have : k = 1 ∨ k = 2 ∨ k = 3 := by omega
  rcases this with rfl | rfl | rfl <;> rfl
theorem ref01_Read_eq (N : Nat) (s : Bs) (hN : 4 < N) (hs : s.length ≤ 1099511627776) : ref01_Read N s = some (readP s) := by
  unfold ref01_Read
  cases s with
  | nil => rfl
  | cons a r =>
    have ha := a.toNat_lt
    simp only [List.getD_cons_zero, List.length_cons, chk_or, chk_or', chk_ort, bif_or]
    simp only [chk_ite, bif_ite, beq_iff_eq, decide_eq_true_eq, Bool.or_eq_true, Bool.and_eq_true]
    rw [if_neg (by omega), if_pos (by omega)]
    have ht : ((a.toNat : Nat) : Int).tmod 32 = ((a.toNat % 32 : Nat) : Int) := by rw [Int.tmod_eq_emod_of_nonneg (by omega)]; omega
    rw [ht]
    by_cases h31 : a.toNat % 32 = 31
    · have : Sp.err (a :: r) = 5 := by simp [Sp.err, Sp.rd, Sp.head, h31]
      unfold readP
      rw [this, if_pos (by omega)]
      rfl
    · rw [if_neg (by omega)]
      cases r with
      | nil =>
        have : Sp.err [a] = 3 := by simp [Sp.err, Sp.rd, Sp.head, h31]
        unfold readP
        rw [this]
        rfl
      | cons b c =>
        have hb := b.toNat_lt
        simp only [List.length_cons] at hs
        simp only [List.getD_cons_succ, List.getD_cons_zero, List.length_cons]
        rw [w64 (x := ((b.toNat : Nat) : Int)) (by omega) (by omega), if_neg (by omega), if_pos (by omega)]
        by_cases h6 : b.toNat = 128 ∨ 131 < b.toNat
        · have : Sp.err (a :: b :: c) = 6 := by simp [Sp.err, Sp.rd, Sp.head, h31, h6, show ¬ b.toNat < 128 by omega]
          unfold readP
          rw [this, if_pos (by omega)]
          rfl
        · rw [if_neg (by omega), letJ_eq]
          have hend : ∀ p n : Nat, Sp.head (a :: b :: c) = (0, p, n) → p ≤ c.length + 2 → n ≤ 131072 → (if IntKind.i64.wrap (((c.length + 1 + 1 : Nat) : Int) - (p : Int)) < (n : Int) then some ((0, ([] : Bs), ([] : Bs)), ([] : Bs), 3)
              else if (0 : Int) < ((c.length + 1 + 1 : Nat) : Int) then if (0 : Int) ≤ (p : Int) then if (p : Int) ≤ IntKind.i64.wrap ((p : Int) + (n : Int)) then if IntKind.i64.wrap ((p : Int) + (n : Int)) ≤ ((c.length + 1 + 1 : Nat) : Int) then if (0 : Int) ≤ IntKind.i64.wrap ((p : Int) + (n : Int)) then
                if IntKind.i64.wrap ((p : Int) + (n : Int)) ≤ ((c.length + 1 + 1 : Nat) : Int) then if (0 : Int) ≤ IntKind.i64.wrap ((p : Int) + (n : Int)) then if IntKind.i64.wrap ((p : Int) + (n : Int)) ≤ ((c.length + 1 + 1 : Nat) : Int) then
                some ((IntKind.i64.wrap ((a.toNat : Nat) : Int), cutL (a :: b :: c) (p : Int).toNat (IntKind.i64.wrap ((p : Int) + (n : Int))).toNat, cutL (a :: b :: c) 0 (IntKind.i64.wrap ((p : Int) + (n : Int))).toNat), cutL (a :: b :: c) (IntKind.i64.wrap ((p : Int) + (n : Int))).toNat (c.length + 1 + 1), 0)
                else none else none else none else none else none else none else none else none : Option ((Int × Bs × Bs) × Bs × Int)) = some (readP (a :: b :: c)) := by
            intro p n hh hp hn
            have := read_end (s := a :: b :: c) hh (by simp; omega)
            rw [w64 (x := ((c.length + 1 + 1 : Nat) : Int) - (p : Int)) (by omega) (by omega), w64 (x := (p : Int) + (n : Int)) (by omega) (by omega), w64 (x := ((a.toNat : Nat) : Int)) (by omega) (by omega)]
            rw [← this]
            show (if ((c.length + 1 + 1 : Nat) : Int) - (p : Int) < (n : Int) then _ else _) = (if ((c.length + 1 + 1 : Nat) : Int) - (p : Int) < (n : Int) then _ else _)
            by_cases hlt : ((c.length + 1 + 1 : Nat) : Int) - (p : Int) < (n : Int)
            · rw [if_pos hlt, if_pos hlt]
            · rw [if_neg hlt, if_neg hlt, if_pos (by omega), if_pos (by omega), if_pos (by omega), if_pos (by omega), if_pos (by omega), if_pos (by omega), if_pos (by omega), if_pos (by omega)]
              rw [show ((p : Int) + (n : Int)).toNat = p + n by omega, Int.toNat_natCast]
              rfl
          by_cases h128 : b.toNat < 128
          · rw [if_neg (by omega)]
            exact hend 2 b.toNat (by simp [Sp.head, h31, h128]) (by omega) (by omega)
          · rw [if_pos (by omega)]
            obtain ⟨k, hk⟩ : ∃ k : Nat, b.toNat = 128 + k := ⟨b.toNat - 128, by omega⟩
            rw [w64 (x := ((b.toNat : Nat) : Int) - 128) (by omega) (by omega), show ((b.toNat : Nat) : Int) - 128 = (k : Int) by omega, w64 (x := 2 + (k : Int)) (by omega) (by omega)]
            by_cases hlen : c.length < k
            · rw [if_pos (by omega)]
              have : Sp.err (a :: b :: c) = 3 := by simp [Sp.err, Sp.rd, Sp.head, h31, h128, h6, show b.toNat - 128 = k by omega, hlen]
              unfold readP
              rw [this]
              rfl
            · rw [if_neg (by omega)]
              have hd := fun kx => dig_loop_ref (ρ := (Int × Bs × Bs) × Bs × Int) N (a :: b :: c) k (by omega) (by simp; omega) (by simp; omega) hN kx
              refine Eq.trans (hd _) ?_
              show (if (0 : Int) ≤ (k : Int) then _ else _) = _
              have hdr : ((a :: b :: c).drop 2).take k = c.take k := rfl
              rw [hdr, if_pos (by omega), if_pos (by omega), Int.toNat_natCast, if_pos (by omega), least_ref k (by omega) (by omega)]
              by_cases hbad : Sp.beNat (c.take k) < Sp.leastOf k ∨ 131072 < Sp.beNat (c.take k)
              · have : Sp.err (a :: b :: c) = 6 := by simp [Sp.err, Sp.rd, Sp.head, h31, h128, h6, show b.toNat - 128 = k by omega, hlen, hbad]
                unfold readP
                rw [if_pos (by omega), this]
                rfl
              · rw [if_neg (by omega)]
                have := hend (2 + k) (Sp.beNat (c.take k)) (by simp [Sp.head, h31, h128, h6, show b.toNat - 128 = k by omega, hlen, hbad]) (by omega) (by omega)
                rw [show (((2 + k : Nat)) : Int) = 2 + (k : Int) by omega] at this
                exact this

/-! ### one element -/
def oneP (s : Bs) : (Int × Bs × Bs) × Int := if Sp.oneErr s = 0 then (elemP s, 0) else ((0, [], []), Sp.oneErr s)
theorem oneErr_ok {s : Bs} (h : Sp.oneErr s = 0) : Sp.err s = 0 ∧ Sp.rest s = [] := by
  unfold Sp.oneErr at h
  by_cases he : Sp.err s = 0
  · rw [if_neg (by simp [he])] at h
    by_cases hr : Sp.rest s = []
    · exact ⟨he, hr⟩
    · rw [if_neg hr] at h; cases h
  · rw [if_pos he] at h; exact absurd h he
theorem tlv_One_eq (N : Nat) (s : Bs) (hN : 4 < N) (hs : s.length ≤ 1099511627776) : tlv_One N s = some (oneP s) := by
  unfold tlv_One
  rw [tlv_Read_eq N s hN hs, callO_s]
  unfold readP oneP Sp.oneErr
  by_cases he : Sp.err s = 0
  · rw [if_pos he]
    by_cases hr : Sp.rest s = []
    · simp [he, hr, bif_ite]
    · simp [he, hr, bif_ite]
  · rw [if_neg he]
    simp [he, bif_ite]
theorem ref01_One_eq (N : Nat) (s : Bs) (hN : 4 < N) (hs : s.length ≤ 1099511627776) : ref01_One N s = some (oneP s) := by
  unfold ref01_One
  rw [ref01_Read_eq N s hN hs, callO_s]
  unfold readP oneP Sp.oneErr
  by_cases he : Sp.err s = 0
  · rw [if_pos he]
    by_cases hr : Sp.rest s = []
    · simp [he, hr]
    · have : 0 < (Sp.rest s).length := by cases h : Sp.rest s with | nil => exact absurd h hr | cons _ _ => simp
      simp [he, hr, this, bif_ite]
  · rw [if_neg he]
    simp [he, bif_ite]

/-! ### what is nested -/
theorem tag_lt (s : Bs) : Sp.tag s < 256 := UInt8.toNat_lt _
/-- what is left of an element in n elements at depth d -/
def innerP (e : Int × Bs × Bs) (d : Nat) : Int := if e.1 / 32 % 2 = 1 then Sp.within (e.2.1.length + 1) d e.2.1 else 0
theorem inner_fuel : ∀ (f g d : Nat) (l : Bs), l.length < f → l.length < g → Sp.within f d l = Sp.within g d l := by
  intro f
  induction f with
  | zero => intro g d l h; omega
  | succ f ih =>
    intro g d l hf hg
    cases g with
    | zero => omega
    | succ g =>
      show (if l = [] then _ else _) = if l = [] then _ else _
      by_cases hl : l = []
      · rw [if_pos hl, if_pos hl]
      · rw [if_neg hl, if_neg hl]
        by_cases he : Sp.err l = 0
        · have h1 := Sp.content_lt l he
          have h2 := Sp.rest_lt l he
          rw [ih g (d + 1) (Sp.content l) (by omega) (by omega), ih g d (Sp.rest l) (by omega) (by omega)]
        · rw [if_pos he, if_pos he]
/-- the loop over what an element holds -/
theorem within_loop {B : Bs → (Bs → Option Int) → (Unit → Option Int) → Option Int} {kx : Unit → Option Int} (d L : Nat)
    (hB : ∀ x k, x ≠ [] → x.length ≤ L → B x k kx = if Sp.err x ≠ 0 then some (Sp.err x) else if 16 ≤ d then some 8 else if innerP (elemP x) (d + 1) ≠ 0 then some (innerP (elemP x) (d + 1)) else k (Sp.rest x))
    (hend : ∀ k, B [] k kx = some 0) (N : Nat) (x : Bs) (hx : x.length ≤ L) (hN : x.length < N) : iterG B N x kx = some (Sp.within (x.length + 1) d x) := by
  refine iterG_of (fun x => x.length ≤ L) (fun x => x.length) (fun x => some (Sp.within (x.length + 1) d x)) ?_ N x hx hN
  intro x hx k hk
  by_cases h0 : x = []
  · subst h0; rw [hend]; rfl
  · rw [hB x k h0 hx]
    by_cases he : Sp.err x = 0
    · rw [if_neg (by simp [he])]
      by_cases hd : 16 ≤ d
      · rw [if_pos hd, Sp.within_deep _ _ _ h0 he hd]
      · rw [if_neg hd]
        have h1 := Sp.content_lt x he
        have h2 := Sp.rest_lt x he
        have hin : innerP (elemP x) (d + 1) = Sp.inner x.length (d + 1) (Sp.tag x) (Sp.content x) := by
          unfold innerP Sp.inner Sp.cons elemP
          rw [inner_fuel _ x.length (d + 1) (Sp.content x) (Nat.lt_succ_self _) h1]
          have : (((Sp.tag x : Nat) : Int) / 32 % 2 = 1) ↔ (Sp.tag x / 32 % 2 = 1) := by omega
          simp [this]
        rw [hin]
        by_cases hi : Sp.inner x.length (d + 1) (Sp.tag x) (Sp.content x) = 0
        · rw [if_neg (by simp [hi]), hk _ (by show (Sp.rest x).length ≤ L; omega) h2, Sp.within_step _ _ _ h0 he hd hi]
          rw [inner_fuel _ x.length d (Sp.rest x) (Nat.lt_succ_self _) h2]
        · rw [if_pos hi, Sp.within_bad _ _ _ h0 he hd hi]
    · rw [if_pos he, Sp.within_err _ _ _ h0 he]
theorem within_eq (N : Nat) (hN : 4 < N) : ∀ (m n : Nat), m < n → ∀ (e : Int × Bs × Bs) (d : Nat), d + m = 16 → 0 ≤ e.1 → e.1 < 256 → e.2.1.length < N → e.2.1.length ≤ 1099511627776 →
    tlv_within N n e (d : Int) = some (innerP e d) := by
  intro m
  induction m with
  | zero =>
    intro n hn e d hd h0 h1 h2 h3
    obtain ⟨n, rfl⟩ : ∃ k, n = k + 1 := ⟨n - 1, by omega⟩
    show tlv_within_body N (tlv_within N n) e d = _
    unfold tlv_within_body innerP
    obtain ⟨t, ht⟩ : ∃ t : Nat, e.1 = (t : Int) := ⟨e.1.toNat, by omega⟩
    rw [ht, and32 t (by omega)]
    by_cases hc : t / 32 % 2 = 1
    · rw [if_pos hc, if_pos (by omega)]
      refine within_loop d e.2.1.length (fun x k hx hl => ?_) (fun k => rfl) N _ (Nat.le_refl _) h2
      have : (x == ([] : Bs)) = false := by cases x with | nil => exact absurd rfl hx | cons _ _ => rfl
      dsimp only
      rw [this, tlv_Read_eq N x hN (by omega), callO_s]
      unfold readP
      simp only [bif_ite, bne_iff_ne, decide_eq_true_eq, Bool.not_false]
      by_cases he : Sp.err x = 0
      · rw [if_pos he]
        simp only [he, ne_eq, not_true_eq_false, if_false, if_true]
        rw [if_pos (by omega), if_pos (by omega)]
      · rw [if_neg he]
        simp [he]
    · rw [if_neg hc, if_neg (by omega)]; rfl
  | succ m ih =>
    intro n hn e d hd h0 h1 h2 h3
    obtain ⟨n, rfl⟩ : ∃ k, n = k + 1 := ⟨n - 1, by omega⟩
    show tlv_within_body N (tlv_within N n) e d = _
    unfold tlv_within_body innerP
    obtain ⟨t, ht⟩ : ∃ t : Nat, e.1 = (t : Int) := ⟨e.1.toNat, by omega⟩
    rw [ht, and32 t (by omega)]
    by_cases hc : t / 32 % 2 = 1
    · rw [if_pos hc, if_pos (by omega)]
      refine within_loop d e.2.1.length (fun x k hx hl => ?_) (fun k => rfl) N _ (Nat.le_refl _) h2
      have : (x == ([] : Bs)) = false := by cases x with | nil => exact absurd rfl hx | cons _ _ => rfl
      dsimp only
      rw [this, tlv_Read_eq N x hN (by omega), callO_s]
      unfold readP
      simp only [bif_ite, bne_iff_ne, decide_eq_true_eq, Bool.not_false]
      by_cases he : Sp.err x = 0
      · rw [if_pos he]
        simp only [he, ne_eq, not_true_eq_false, if_false, if_true]
        have hcl := Sp.content_lt x he
        have htl := tag_lt x
        rw [if_neg (by omega), if_neg (by omega), w64 (by omega) (by omega), show (d : Int) + 1 = ((d + 1 : Nat) : Int) by omega, ih n (by omega) (elemP x) (d + 1) (by omega) (by show (0 : Int) ≤ ((Sp.tag x : Nat) : Int); omega) (by show ((Sp.tag x : Nat) : Int) < 256; omega) (by show (Sp.content x).length < N; omega) (by show (Sp.content x).length ≤ _; omega), callO_s]
      · rw [if_neg he]
        simp [he]
    · rw [if_neg hc, if_neg (by omega)]; rfl
theorem check_eq (N : Nat) (hN : 4 < N) : ∀ (m n : Nat), m < n → ∀ (e : Int × Bs × Bs) (d : Nat), d + 1 + m = 16 → 0 ≤ e.1 → e.1 < 256 → e.2.1.length < N → e.2.1.length ≤ 1099511627776 →
    ref01_check N n e (d : Int) = some (innerP e (d + 1)) := by
  intro m
  induction m with
  | zero =>
    intro n hn e d hd h0 h1 h2 h3
    obtain ⟨n, rfl⟩ : ∃ k, n = k + 1 := ⟨n - 1, by omega⟩
    show ref01_check_body N (ref01_check N n) e d = _
    unfold ref01_check_body innerP
    rw [Int.tdiv_eq_ediv_of_nonneg h0, w64 (by omega) (by omega), Int.tmod_eq_emod_of_nonneg (by omega)]
    by_cases hc : e.1 / 32 % 2 = 1
    · rw [if_pos hc, hc]
      refine within_loop (d + 1) e.2.1.length (fun x k hx hl => ?_) (fun k => rfl) N _ (Nat.le_refl _) h2
      have : 0 < x.length := by cases x with | nil => exact absurd rfl hx | cons _ _ => simp
      dsimp only
      rw [ref01_Read_eq N x hN (by omega), callO_s]
      unfold readP
      simp only [bif_ite, bne_iff_ne, decide_eq_true_eq]
      rw [if_pos (by omega), w64 (by omega) (by omega)]
      by_cases he : Sp.err x = 0
      · rw [if_pos he]
        simp only [he, ne_eq, not_true_eq_false, if_false]
        rw [if_pos (by omega), if_pos (by omega)]
      · rw [if_neg he]
        simp [he]
    · rw [if_neg hc, show e.1 / 32 % 2 = 0 by omega]; rfl
  | succ m ih =>
    intro n hn e d hd h0 h1 h2 h3
    obtain ⟨n, rfl⟩ : ∃ k, n = k + 1 := ⟨n - 1, by omega⟩
    show ref01_check_body N (ref01_check N n) e d = _
    unfold ref01_check_body innerP
    rw [Int.tdiv_eq_ediv_of_nonneg h0, w64 (by omega) (by omega), Int.tmod_eq_emod_of_nonneg (by omega)]
    by_cases hc : e.1 / 32 % 2 = 1
    · rw [if_pos hc, hc]
      refine within_loop (d + 1) e.2.1.length (fun x k hx hl => ?_) (fun k => rfl) N _ (Nat.le_refl _) h2
      have : 0 < x.length := by cases x with | nil => exact absurd rfl hx | cons _ _ => simp
      dsimp only
      rw [ref01_Read_eq N x hN (by omega), callO_s]
      unfold readP
      simp only [bif_ite, bne_iff_ne, decide_eq_true_eq]
      rw [if_pos (by omega), w64 (by omega) (by omega)]
      by_cases he : Sp.err x = 0
      · rw [if_pos he]
        simp only [he, ne_eq, not_true_eq_false, if_false]
        have hcl := Sp.content_lt x he
        have htl := tag_lt x
        rw [if_neg (by omega), if_neg (by omega), show (d : Int) + 1 = ((d + 1 : Nat) : Int) by omega, ih n (by omega) (elemP x) (d + 1) (by omega) (by show (0 : Int) ≤ ((Sp.tag x : Nat) : Int); omega) (by show ((Sp.tag x : Nat) : Int) < 256; omega) (by show (Sp.content x).length < N; omega) (by show (Sp.content x).length ≤ _; omega), callO_s]
      · rw [if_neg he]
        simp [he]
    · rw [if_neg hc, show e.1 / 32 % 2 = 0 by omega]; rfl

/-! ### a whole element -/
theorem innerP_chk {s : Bs} (h : Sp.oneErr s = 0) : innerP (elemP s) 1 = Sp.chk s := by
  unfold Sp.chk
  rw [if_neg (by simp [h])]
  unfold innerP Sp.inner Sp.cons elemP
  have h1 := Sp.content_lt s (oneErr_ok h).1
  rw [inner_fuel _ (s.length + 1) 1 (Sp.content s) (Nat.lt_succ_self _) (by omega)]
  have : (((Sp.tag s : Nat) : Int) / 32 % 2 = 1) ↔ (Sp.tag s / 32 % 2 = 1) := by omega
  simp [this]
theorem tlv_Check_eq (N : Nat) (s : Bs) (hN : 16 < N) (hs : s.length ≤ 1099511627776) (hl : s.length < N) : tlv_Check N s = some (Sp.chk s) := by
  unfold tlv_Check
  rw [tlv_One_eq N s (by omega) hs, callO_s]
  unfold oneP
  by_cases h : Sp.oneErr s = 0
  · have h1 := Sp.content_lt s (oneErr_ok h).1
    have h2 := tag_lt s
    rw [if_pos h, ← innerP_chk h]
    have := within_eq N (by omega) 15 N (by omega) (elemP s) 1 rfl (by show (0 : Int) ≤ ((Sp.tag s : Nat) : Int); omega) (by show ((Sp.tag s : Nat) : Int) < 256; omega) (by show (Sp.content s).length < N; omega) (by show (Sp.content s).length ≤ _; omega)
    show callO (tlv_within N N (elemP s) 1) _ = _
    rw [show (1 : Int) = ((1 : Nat) : Int) from rfl, this, callO_s]
  · rw [if_neg h]
    have : Sp.chk s = Sp.oneErr s := by unfold Sp.chk; rw [if_pos h]
    simp [bif_ite, h, this]
theorem ref01_Check_eq (N : Nat) (s : Bs) (hN : 16 < N) (hs : s.length ≤ 1099511627776) (hl : s.length < N) : ref01_Check N s = some (Sp.chk s) := by
  unfold ref01_Check
  rw [ref01_One_eq N s (by omega) hs, callO_s]
  unfold oneP
  by_cases h : Sp.oneErr s = 0
  · have h1 := Sp.content_lt s (oneErr_ok h).1
    have h2 := tag_lt s
    rw [if_pos h, ← innerP_chk h]
    have := check_eq N (by omega) 15 N (by omega) (elemP s) 0 rfl (by show (0 : Int) ≤ ((Sp.tag s : Nat) : Int); omega) (by show ((Sp.tag s : Nat) : Int) < 256; omega) (by show (Sp.content s).length < N; omega) (by show (Sp.content s).length ≤ _; omega)
    show callO (ref01_check N N (elemP s) 0) _ = _
    rw [show (0 : Int) = ((0 : Nat) : Int) from rfl, this, callO_s]
  · rw [if_neg h]
    have : Sp.chk s = Sp.oneErr s := by unfold Sp.chk; rw [if_pos h]
    simp [bif_ite, h, this]
end Go.Proofs.YtnllccjmbijjlaaGreat.Pl

/-
  Bundles: what their checks compute. No program in sight.
-/
namespace Go.Proofs.YtnllccjmbijjlaaGreat.Pl
open Go Vm

theorem chk_ne {s : Bs} (h : Sp.chk s = 0) : s ≠ [] := by
  intro e; subst e; revert h; decide
theorem tag_getD (s : Bs) : ((s.getD 0 0).toNat) = Sp.tag s := by unfold Sp.tag; cases s <;> rfl
theorem pos_of_ne {α : Type} {s : List α} (h : s ≠ []) : 0 < s.length := by cases s with | nil => exact absurd rfl h | cons _ _ => simp
theorem checkOne_eq (N : Nat) (s : Bs) (hN : 16 < N) (hs : s.length ≤ 1099511627776) (hl : s.length < N) : bundle_checkOne N s = some (Sp.seqErr s) := by
  unfold bundle_checkOne Sp.seqErr
  rw [tlv_Check_eq N s hN hs hl, callO_s]
  by_cases h : Sp.chk s = 0
  · have := pos_of_ne (chk_ne h)
    by_cases ht : Sp.tag s = 48
    · have hti : ((Sp.tag s : Nat) : Int) = 48 := by omega
      simp only [h, chk_if, bif_ite, tag_getD, ht]
      rw [if_neg (by decide), if_pos (by omega), if_neg (by decide)]
      rfl
    · have hti : ((Sp.tag s : Nat) : Int) ≠ 48 := by omega
      simp only [h, chk_if, bif_ite, tag_getD, bne_iff_ne]
      rw [if_neg (by simp), if_pos (by omega), if_pos hti, if_neg (by simp), if_neg ht]
  · simp [bif_ite, h]
theorem sequence_eq (N : Nat) (s : Bs) (hN : 16 < N) (hs : s.length ≤ 1099511627776) (hl : s.length < N) : ref14_sequence N s = some (Sp.seqErr s) := by
  unfold ref14_sequence Sp.seqErr
  rw [ref01_Check_eq N s hN hs hl, callO_s]
  by_cases h : Sp.chk s = 0
  · have := pos_of_ne (chk_ne h)
    by_cases ht : Sp.tag s = 48
    · have hti : ((Sp.tag s : Nat) : Int) = 48 := by omega
      simp only [h, chk_if, bif_ite, tag_getD, ht]
      rw [if_neg (by decide), if_pos (by omega), if_neg (by decide)]
      rfl
    · have hti : ((Sp.tag s : Nat) : Int) ≠ 48 := by omega
      simp only [h, chk_if, bif_ite, tag_getD, bne_iff_ne]
      rw [if_neg (by simp), if_pos (by omega), if_pos hti, if_neg (by simp), if_neg ht]
  · simp [bif_ite, h]

def optE (s : Bs) : Int := if s = [] then 0 else Sp.seqErr s
def pairE (p : Bs × Bs) : Int := if p.1 = [] ∧ p.2 = [] then 7 else firstE optE [p.1, p.2]
abbrev Bundle := List Bs × List Bs × List (Bs × Bs)
def bundleE (b : Bundle) : Int :=
  if (64 < b.1.length ∨ 64 < b.2.1.length) ∨ 64 < b.2.2.length then 2
  else if firstE (firstE Sp.seqErr) [b.1, b.2.1] ≠ 0 then firstE (firstE Sp.seqErr) [b.1, b.2.1] else firstE pairE b.2.2
/-- strings that are not too long -/
def fitS (N : Nat) (s : Bs) : Prop := s.length ≤ 1099511627776 ∧ s.length < N
structure Fit (N : Nat) (b : Bundle) : Prop where
  c : ∀ s ∈ b.1, fitS N s
  l : ∀ s ∈ b.2.1, fitS N s
  p : ∀ q ∈ b.2.2, fitS N q.1 ∧ fitS N q.2
theorem eq_nil_beq (s : Bs) : (s == ([] : Bs)) = decide (s = []) := by cases s <;> rfl
/-- the two halves of a pair -/
theorem halves_eq {ρ : Type} (one : Bs → Option Int) (N : Nat) (f r : Bs) (hN : 64 < N) (hf : one f = some (Sp.seqErr f)) (hr : one r = some (Sp.seqErr r)) (ret : Int → Option ρ) (fin : Option ρ) :
    iterG (X := Int × List Bs) (Y := Unit) (U2 fun t20a l37376a k1 x2 =>
      bif decide (t20a < (2 : Int)) then (Vm.chk (decide ((0 : Int) ≤ t20a)) <|
      Vm.chk (decide (t20a < (l37376a.length : Int))) <|
      Vm.chk (decide (t20a.toNat < l37376a.length)) <|
      bif ((l37376a.getD t20a.toNat ([] : Bs)) == ([] : Bs)) then (k1 (IntKind.i64.wrap (t20a + (1 : Int)), l37376a))
      else (callO (one (l37376a.getD t20a.toNat ([] : Bs))) fun r27 =>
      bif (r27 != (0 : Int)) then (ret r27)
      else (k1 (IntKind.i64.wrap (t20a + (1 : Int)), l37376a))))
      else (x2 ())) N (0, ([f, r] : List Bs)) (fun _ => fin) = if firstE optE [f, r] ≠ 0 then ret (firstE optE [f, r]) else fin := by
  rw [iterG_each (S := Unit) (fun i _ => (i, ([f, r] : List Bs))) [f, r] ([] : Bs) (fun e _ k => if optE e ≠ 0 then ret (optE e) else k ()) (fun _ => fin) ?_ (fun _ _ => rfl) N () (by simp; omega)]
  · exact eachG_first optE ret _ _ _ _ (fun _ _ _ _ => rfl)
  · intro i s k hi
    have hi' : i < 2 := hi
    show (bif decide ((i : Int) < 2) then _ else _) = _
    simp only [chk_if, bif_if, Int.toNat_natCast, eq_nil_beq]
    rw [if_pos (by omega), if_pos (by omega), if_pos (by show (i : Int) < 2; omega), if_pos (by show i < 2; omega), w64 (by omega) (by omega)]
    have he : ([f, r] : List Bs).getD i [] = f ∨ ([f, r] : List Bs).getD i [] = r := by
      have : i = 0 ∨ i = 1 := by omega
      rcases this with rfl | rfl
      · left; rfl
      · right; rfl
    generalize ([f, r] : List Bs).getD i [] = e at he
    have ho : one e = some (Sp.seqErr e) := by rcases he with rfl | rfl <;> assumption
    unfold optE
    by_cases h0 : e = []
    · rw [if_pos h0, if_pos h0]; rfl
    · rw [if_neg h0, if_neg h0, ho, callO_s]
      simp only [bif_ite, bne_iff_ne]
theorem checkPair_eq (N : Nat) (p : Bs × Bs) (hN : 64 < N) (h1 : fitS N p.1) (h2 : fitS N p.2) : bundle_checkPair N p = some (pairE p) := by
  unfold bundle_checkPair
  simp only [chk_or', chk_bif', chk_bif'']
  rw [halves_eq (bundle_checkOne N) N p.1 p.2 hN (checkOne_eq N _ (by omega) h1.1 h1.2) (checkOne_eq N _ (by omega) h2.1 h2.2) (fun r => some r) (some 0)]
  simp only [bif_and]
  simp only [bif_ite, Bool.and_eq_true, beq_iff_eq]
  unfold pairE
  by_cases h : p.1 = [] ∧ p.2 = []
  · rw [if_pos h, if_pos h]
  · rw [if_neg h, if_neg h]
    by_cases hz : firstE optE [p.1, p.2] = 0
    · simp [hz]
    · rw [if_pos hz]
/-- the loop over one list of elements -/
theorem ones_eq {ρ : Type} (one : Bs → Option Int) (N : Nat) {X : Type} (mk : Int → X) (l : List Bs) (hN : l.length < N) (hl : l.length ≤ 64) (ho : ∀ s ∈ l, one s = some (Sp.seqErr s)) (ret : Int → Option ρ) (fin : Option ρ) {Y : Type} {B : X → (X → Option ρ) → (Y → Option ρ) → Option ρ} {kx : Y → Option ρ}
    (hB : ∀ (i : Nat) k, i < l.length → B (mk i) k kx = callO (one (l.getD i [])) fun r => bif (r != (0 : Int)) then ret r else k (mk (IntKind.i64.wrap ((i : Int) + 1)))) (hend : ∀ k, B (mk (l.length : Int)) k kx = fin) :
    iterG B N (mk 0) kx = if firstE Sp.seqErr l ≠ 0 then ret (firstE Sp.seqErr l) else fin := by
  rw [iterG_each (S := Unit) (fun i _ => mk i) l ([] : Bs) (fun e _ k => if Sp.seqErr e ≠ 0 then ret (Sp.seqErr e) else k ()) (fun _ => fin) ?_ (fun _ k => hend k) N () hN]
  · exact eachG_first Sp.seqErr ret _ _ _ _ (fun _ _ _ _ => rfl)
  · intro i s k hi
    dsimp only
    rw [hB i k hi, ho _ (by rw [List.getD_eq_getElem?_getD, List.getElem?_eq_getElem hi]; exact List.getElem_mem hi), callO_s, w64 (by omega) (by omega)]
    simp only [bif_ite, bne_iff_ne]
theorem getD_mem {α : Type} {l : List α} {i : Nat} (d : α) (h : i < l.length) : l.getD i d ∈ l := by rw [List.getD_eq_getElem?_getD, List.getElem?_eq_getElem h]; exact List.getElem_mem h
set_option maxRecDepth 2000 in
theorem Check_eq (N : Nat) (b : Bundle) (hN : 64 < N) (hb : Fit N b) : bundle_Check N b = some (bundleE b) := by
  obtain ⟨c, l, p⟩ := b
  unfold bundle_Check
  simp only [chk_or, chk_or', chk_ort, chk_bif, chk_bif', bif_or]
  unfold bundleE
  by_cases hm : (64 < c.length ∨ 64 < l.length) ∨ 64 < p.length
  · rw [if_pos hm]
    simp only [bif_ite, Bool.or_eq_true, decide_eq_true_eq]
    rw [if_pos (by omega)]
  · rw [if_neg hm]
    rw [show (decide ((c.length : Int) > 64) || decide ((l.length : Int) > 64) || decide ((p.length : Int) > 64)) = false by simp; omega, cond_false]
    have hfit : ∀ e ∈ ([c, l] : List (List Bs)), ∀ s ∈ e, fitS N s := by
      intro e he s hs
      rcases List.mem_cons.1 he with rfl | he
      · exact hb.c s hs
      · rcases List.mem_cons.1 he with rfl | he
        · exact hb.l s hs
        · cases he
    have hlen : ∀ e ∈ ([c, l] : List (List Bs)), e.length ≤ 64 := by
      intro e he
      rcases List.mem_cons.1 he with rfl | he
      · omega
      · rcases List.mem_cons.1 he with rfl | he
        · omega
        · cases he
    rw [iterG_each (S := Unit) (fun i _ => (i, c, l, p, ([c, l] : List (List Bs)))) [c, l] ([] : List Bs) (fun e _ k => if firstE Sp.seqErr e ≠ 0 then some (firstE Sp.seqErr e) else k ()) (fun _ => some (firstE pairE p)) ?_ ?_ N () (by simp; omega)]
    · rw [eachG_first (firstE Sp.seqErr) (fun r => some r) _ _ _ _ (fun _ _ _ _ => rfl)]
      dsimp only
      split <;> rfl
    · intro i _ k hi
      have hi' : i < 2 := hi
      have hmem := getD_mem ([] : List Bs) (show i < ([c, l] : List (List Bs)).length from hi)
      show (bif decide ((i : Int) < 2) then _ else _) = _
      simp only [chk_if, bif_if, Int.toNat_natCast]
      rw [if_pos (by omega), if_pos (by omega), if_pos (by show (i : Int) < 2; omega), if_pos (by show i < 2; omega)]
      rw [ones_eq (bundle_checkOne N) N (fun t => (t, c, l, p, ([c, l] : List (List Bs)))) (([c, l] : List (List Bs)).getD i []) (by have := hlen _ hmem; omega) (hlen _ hmem) (fun s hs => checkOne_eq N s (by omega) (hfit _ hmem s hs).1 (hfit _ hmem s hs).2) (fun r => some r) (k ((i : Int) + 1, c, l, p, ([c, l] : List (List Bs))))]
      · intro j k' hj
        show (if (j : Int) < ((([c, l] : List (List Bs)).getD i []).length : Int) then _ else _) = _
        rw [if_pos (by omega), if_pos (by omega), if_pos (by omega), Int.toNat_natCast]
      · intro k'
        show (if ((([c, l] : List (List Bs)).getD i []).length : Int) < ((([c, l] : List (List Bs)).getD i []).length : Int) then _ else _) = _
        rw [if_neg (by omega)]
        show k (IntKind.i64.wrap ((i : Int) + 1), c, l, p, _) = _
        rw [w64 (by omega) (by omega)]
    · intro _ k
      show iterG _ N 0 _ = _
      rw [iterG_each (S := Unit) (fun i _ => i) p (([] : Bs), ([] : Bs)) (fun e _ k => if pairE e ≠ 0 then some (pairE e) else k ()) (fun _ => some 0) ?_ ?_ N () (by omega)]
      · rw [eachG_first pairE (fun r => some r) _ _ _ _ (fun _ _ _ _ => rfl)]
        by_cases hz : firstE pairE p = 0
        · simp [hz]
        · rw [if_pos hz]
      · intro i _ k hi
        simp only [chk_if, bif_if, Int.toNat_natCast]
        have hm := getD_mem (([] : Bs), ([] : Bs)) hi
        rw [if_pos (by omega), if_pos (by omega), if_pos (by omega), checkPair_eq N _ hN (hb.p _ hm).1 (hb.p _ hm).2, callO_s, w64 (by omega) (by omega)]
        simp only [bif_ite, bne_iff_ne]
      · intro _ k
        simp only [bif_if]
        rw [if_neg (by omega)]
set_option maxRecDepth 2000 in
theorem CheckBundle_eq (N : Nat) (b : Bundle) (hN : 64 < N) (hb : Fit N b) : ref14_CheckBundle N b = some (bundleE b) := by
  obtain ⟨c, l, p⟩ := b
  unfold ref14_CheckBundle
  simp only [chk_or, chk_or', chk_ort, chk_bif, chk_bif', chk_bif'', bif_or, bif_and]
  unfold bundleE
  by_cases hm : (64 < c.length ∨ 64 < l.length) ∨ 64 < p.length
  · rw [if_pos hm]
    simp only [bif_ite, Bool.or_eq_true, decide_eq_true_eq]
    rw [if_pos (by omega)]
  · rw [if_neg hm]
    rw [show (decide ((c.length : Int) > 64) || decide ((l.length : Int) > 64) || decide ((p.length : Int) > 64)) = false by simp; omega, cond_false]
    have hfit : ∀ e ∈ ([c, l] : List (List Bs)), ∀ s ∈ e, fitS N s := by
      intro e he s hs
      rcases List.mem_cons.1 he with rfl | he
      · exact hb.c s hs
      · rcases List.mem_cons.1 he with rfl | he
        · exact hb.l s hs
        · cases he
    have hlen : ∀ e ∈ ([c, l] : List (List Bs)), e.length ≤ 64 := by
      intro e he
      rcases List.mem_cons.1 he with rfl | he
      · omega
      · rcases List.mem_cons.1 he with rfl | he
        · omega
        · cases he
    rw [iterG_each (S := Unit) (fun i _ => (i, c, l, p, ([c, l] : List (List Bs)))) [c, l] ([] : List Bs) (fun e _ k => if firstE Sp.seqErr e ≠ 0 then some (firstE Sp.seqErr e) else k ()) (fun _ => some (firstE pairE p)) ?_ ?_ N () (by simp; omega)]
    · rw [eachG_first (firstE Sp.seqErr) (fun r => some r) _ _ _ _ (fun _ _ _ _ => rfl)]
      dsimp only
      split <;> rfl
    · intro i _ k hi
      have hi' : i < 2 := hi
      have hmem := getD_mem ([] : List Bs) (show i < ([c, l] : List (List Bs)).length from hi)
      show (bif decide ((i : Int) < 2) then _ else _) = _
      simp only [chk_if, bif_if, Int.toNat_natCast]
      rw [if_pos (by omega), if_pos (by omega), if_pos (by show (i : Int) < 2; omega), if_pos (by show i < 2; omega)]
      rw [ones_eq (ref14_sequence N) N (fun t => (t, c, l, p, ([c, l] : List (List Bs)))) (([c, l] : List (List Bs)).getD i []) (by have := hlen _ hmem; omega) (hlen _ hmem) (fun s hs => sequence_eq N s (by omega) (hfit _ hmem s hs).1 (hfit _ hmem s hs).2) (fun r => some r) (k ((i : Int) + 1, c, l, p, ([c, l] : List (List Bs))))]
      · intro j k' hj
        show (if (j : Int) < ((([c, l] : List (List Bs)).getD i []).length : Int) then _ else _) = _
        rw [if_pos (by omega), if_pos (by omega), if_pos (by omega), Int.toNat_natCast]
      · intro k'
        show (if ((([c, l] : List (List Bs)).getD i []).length : Int) < ((([c, l] : List (List Bs)).getD i []).length : Int) then _ else _) = _
        rw [if_neg (by omega)]
        show k (IntKind.i64.wrap ((i : Int) + 1), c, l, p, _) = _
        rw [w64 (by omega) (by omega)]
    · intro _ k
      show iterG _ N 0 _ = _
      rw [iterG_each (S := Unit) (fun i _ => i) p (([] : Bs), ([] : Bs)) (fun e _ k => if pairE e ≠ 0 then some (pairE e) else k ()) (fun _ => some 0) ?_ ?_ N () (by omega)]
      · rw [eachG_first pairE (fun r => some r) _ _ _ _ (fun _ _ _ _ => rfl)]
        by_cases hz : firstE pairE p = 0
        · simp [hz]
        · rw [if_pos hz]
      · intro i _ k hi
        have hm := getD_mem (([] : Bs), ([] : Bs)) hi
        dsimp only
        rw [bif_if, if_pos (by omega), chk_if, if_pos (by omega), chk_if, if_pos (by omega), Int.toNat_natCast]
        have h1 := (hb.p _ hm).1
        have h2 := (hb.p _ hm).2
        rw [halves_eq (ref14_sequence N) N _ _ hN (sequence_eq N _ (by omega) h1.1 h1.2) (sequence_eq N _ (by omega) h2.1 h2.2) (fun r => some r) (k (IntKind.i64.wrap ((i : Int) + 1)))]
        rw [w64 (by omega) (by omega)]
        generalize p.getD i (([] : Bs), ([] : Bs)) = q
        unfold pairE
        simp only [bif_ite, Bool.and_eq_true, beq_iff_eq]
        by_cases h : q.1 = [] ∧ q.2 = []
        · rw [if_pos h, if_pos h, if_pos (by decide)]
        · rw [if_neg h, if_neg h]
      · intro _ k
        simp only [bif_if]
        rw [if_neg (by omega)]
end Go.Proofs.YtnllccjmbijjlaaGreat.Pl

/-
  The items of bundles that a law makes: they are made, and they are small. No program in sight.
-/
namespace Go.Proofs.YtnllccjmbijjlaaGreat.Pl
open Go Vm

/-- how far a deck is used up -/
def deckAt (L : List Int) (d : List Int × Int) : Prop := ∃ k : Nat, d = (L, (k : Int)) ∧ k ≤ L.length
theorem next_eq (N : Nat) {L : List Int} (hL : L.length ≤ 9223372036854775807) {d : List Int × Int} (hd : deckAt L d) (n : Nat) (hn : 0 < n) (hn' : n < 2147483648) :
    ∃ (r : Nat) (d' : List Int × Int), made_Deck_Next N d (n : Int) = some ((r : Int), d') ∧ r < n ∧ deckAt L d' := by
  obtain ⟨k, rfl, hk⟩ := hd
  unfold made_Deck_Next
  dsimp only
  by_cases h : k < L.length
  · rw [bif_if, if_neg (by omega), w64 (x := (k : Int) + 1) (by omega) (by omega), w64 (x := (k : Int) + 1 - 1) (by omega) (by omega), chk_if, if_pos (by omega), chk_if, if_pos (by omega)]
    generalize L.getD _ _ = x
    have hne : ((n : Int) != 0) = true := by simp; omega
    rw [hne, chk_t, chk_t]
    have h1 := Int.tmod_lt_of_pos x (show (0 : Int) < (n : Int) by omega)
    have h2 : -(n : Int) < x.tmod (n : Int) := Int.lt_tmod_of_pos x (by omega)
    rw [w64 (x := x.tmod (n : Int) + (n : Int)) (by omega) (by omega)]
    have h3 : 0 ≤ (x.tmod (n : Int) + (n : Int)).tmod (n : Int) := Int.tmod_nonneg _ (by omega)
    have h4 := Int.tmod_lt_of_pos (x.tmod (n : Int) + (n : Int)) (show (0 : Int) < (n : Int) by omega)
    refine ⟨((x.tmod (n : Int) + (n : Int)).tmod (n : Int)).toNat, (L, (k : Int) + 1), ?_, by omega, ⟨k + 1, by rw [show ((k + 1 : Nat) : Int) = (k : Int) + 1 by omega], h⟩⟩
    rw [Int.toNat_of_nonneg h3]
  · rw [bif_if, if_pos (by omega)]
    exact ⟨0, _, rfl, hn, k, rfl, hk⟩

/-! ### items: of finitely many kinds, each made by the kernel's reckoning -/
def listItem (k : Int) : Option Bs := callO (made_New 1048576 ([k] : List Int)) fun r18 => callO (made_List 1048576 r18) fun r19 => callO (made_SealedList 1048576 r19.1) fun r20 => some r20
def certItem (k j : Int) : Option Bs := callO (made_New 1048576 ([k, j] : List Int)) fun r26 => callO (made_Cert 1048576 r26) fun r27 => callO (made_Sealed 1048576 r27.1) fun r28 => some r28
def smallO (o : Option Bs) : Bool := match o with | some s => decide (s.length ≤ 3000) | none => false
theorem list0 : smallO (listItem 0) = true := by kernel_rfl
theorem list1 : smallO (listItem 1) = true := by kernel_rfl
theorem list2 : smallO (listItem 2) = true := by kernel_rfl
theorem list3 : smallO (listItem 3) = true := by kernel_rfl
theorem cert00 : smallO (certItem 0 0) = true := by kernel_rfl
theorem cert01 : smallO (certItem 0 1) = true := by kernel_rfl
theorem cert02 : smallO (certItem 0 2) = true := by kernel_rfl
theorem cert10 : smallO (certItem 1 0) = true := by kernel_rfl
theorem cert11 : smallO (certItem 1 1) = true := by kernel_rfl
theorem cert12 : smallO (certItem 1 2) = true := by kernel_rfl
theorem cert20 : smallO (certItem 2 0) = true := by kernel_rfl
theorem cert21 : smallO (certItem 2 1) = true := by kernel_rfl
theorem cert22 : smallO (certItem 2 2) = true := by kernel_rfl
theorem cert30 : smallO (certItem 3 0) = true := by kernel_rfl
theorem cert31 : smallO (certItem 3 1) = true := by kernel_rfl
theorem cert32 : smallO (certItem 3 2) = true := by kernel_rfl
end Go.Proofs.YtnllccjmbijjlaaGreat.Pl

/-
  Bundles that a law makes: they are made, and they are small. No program in sight.
-/
namespace Go.Proofs.YtnllccjmbijjlaaGreat.Pl
open Go Vm

theorem small_some {o : Option Bs} (h : smallO o = true) : ∃ s, o = some s ∧ s.length ≤ 3000 := by
  cases o with
  | none => cases h
  | some s => exact ⟨s, rfl, of_decide_eq_true h⟩
theorem list_item (k : Nat) (hk : k < 4) : ∃ s, listItem (k : Int) = some s ∧ s.length ≤ 3000 := by
  have : k = 0 ∨ k = 1 ∨ k = 2 ∨ k = 3 := by omega
  rcases this with rfl | rfl | rfl | rfl
  · exact small_some list0
  · exact small_some list1
  · exact small_some list2
  · exact small_some list3
theorem cert_item (k j : Nat) (hk : k < 4) (hj : j < 3) : ∃ s, certItem (k : Int) (j : Int) = some s ∧ s.length ≤ 3000 := by
  have h1 : k = 0 ∨ k = 1 ∨ k = 2 ∨ k = 3 := by omega
  have h2 : j = 0 ∨ j = 1 ∨ j = 2 := by omega
  rcases h1 with rfl | rfl | rfl | rfl <;> rcases h2 with rfl | rfl | rfl
  · exact small_some cert00
  · exact small_some cert01
  · exact small_some cert02
  · exact small_some cert10
  · exact small_some cert11
  · exact small_some cert12
  · exact small_some cert20
  · exact small_some cert21
  · exact small_some cert22
  · exact small_some cert30
  · exact small_some cert31
  · exact small_some cert32
theorem callO_split {α ρ : Type} [Inhabited α] {o : Option α} {k : α → Option ρ} {r : ρ} (h : callO o k = some r) : ∃ a, o = some a ∧ k a = some r := by
  cases o with
  | none => cases h
  | some a => exact ⟨a, rfl, h⟩
theorem item_eq {L : List Int} (hL : L.length ≤ 9223372036854775807) {d : List Int × Int} (hd : deckAt L d) :
    ∃ (s : Bs) (d' : List Int × Int), law20_item 1048576 d = some (s, d') ∧ s.length ≤ 3000 ∧ deckAt L d' := by
  unfold law20_item
  obtain ⟨r, d1, h1, hr, hd1⟩ := next_eq 1048576 hL hd 5 (by omega) (by omega)
  rw [show (5 : Int) = ((5 : Nat) : Int) from rfl, h1, callO_s]
  dsimp only
  by_cases h0 : r = 0
  · subst h0
    rw [show (((0 : Nat) : Int) == 0) = true from rfl, cond_true]
    obtain ⟨r2, d2, h2, hr2, hd2⟩ := next_eq 1048576 hL hd1 3 (by omega) (by omega)
    rw [show (3 : Int) = ((3 : Nat) : Int) from rfl, h2, callO_s]
    dsimp only
    rw [show List.all ([IntKind.u8.wrap (r2 : Int)] : List Int) isByte = true by simp [isByte_w8], chk_t, chk_if, if_pos (by simp)]
    exact ⟨_, _, rfl, by simp, hd2⟩
  · rw [show (((r : Nat) : Int) == 0) = false by simp; omega, cond_false]
    by_cases h1' : r = 1
    · subst h1'
      rw [show (((1 : Nat) : Int) == 1) = true from rfl, cond_true]
      obtain ⟨r2, d2, h2, hr2, hd2⟩ := next_eq 1048576 hL hd1 4 (by omega) (by omega)
      rw [show (4 : Int) = ((4 : Nat) : Int) from rfl, h2, callO_s]
      dsimp only
      obtain ⟨s, hs, hsl⟩ := list_item r2 hr2
      unfold listItem at hs
      obtain ⟨a, ha, hs⟩ := callO_split hs
      obtain ⟨b, hb, hs⟩ := callO_split hs
      obtain ⟨c, hc, hs⟩ := callO_split hs
      injection hs with hs
      rw [ha, callO_s, hb, callO_s, hc, callO_s, hs]
      exact ⟨_, _, rfl, hsl, hd2⟩
    · rw [show (((r : Nat) : Int) == 1) = false by simp; omega, cond_false]
      obtain ⟨r2, d2, h2, hr2, hd2⟩ := next_eq 1048576 hL hd1 4 (by omega) (by omega)
      rw [show (4 : Int) = ((4 : Nat) : Int) from rfl, h2, callO_s]
      dsimp only
      obtain ⟨r3, d3, h3, hr3, hd3⟩ := next_eq 1048576 hL hd2 3 (by omega) (by omega)
      rw [show (3 : Int) = ((3 : Nat) : Int) from rfl, h3, callO_s]
      dsimp only
      obtain ⟨s, hs, hsl⟩ := cert_item r2 r3 hr2 hr3
      unfold certItem at hs
      obtain ⟨a, ha, hs⟩ := callO_split hs
      obtain ⟨b, hb, hs⟩ := callO_split hs
      obtain ⟨c, hc, hs⟩ := callO_split hs
      injection hs with hs
      rw [ha, callO_s, hb, callO_s, hc, callO_s, hs]
      exact ⟨_, _, rfl, hsl, hd3⟩

/-! ### bundles -/
def few (n : Nat) (l : List Bs) : Prop := l.length ≤ n ∧ ∀ s ∈ l, s.length ≤ 3000
def fewP (n : Nat) (l : List (Bs × Bs)) : Prop := l.length ≤ n ∧ ∀ q ∈ l, q.1.length ≤ 3000 ∧ q.2.length ≤ 3000
theorem few_snoc {n : Nat} {l : List Bs} {s : Bs} (h : few n l) (hs : s.length ≤ 3000) : few (n + 1) (l ++ [s]) :=
  ⟨by have := h.1; simp; omega, fun x hx => by
    rcases List.mem_append.1 hx with hx | hx
    · exact h.2 x hx
    · rw [List.mem_singleton.1 hx]; exact hs⟩
theorem fewP_snoc {n : Nat} {l : List (Bs × Bs)} {s : Bs × Bs} (h : fewP n l) (h1 : s.1.length ≤ 3000) (h2 : s.2.length ≤ 3000) : fewP (n + 1) (l ++ [s]) :=
  ⟨by have := h.1; simp; omega, fun x hx => by
    rcases List.mem_append.1 hx with hx | hx
    · exact h.2 x hx
    · rw [List.mem_singleton.1 hx]; exact ⟨h1, h2⟩⟩
theorem few_mono {n m : Nat} {l : List Bs} (h : few n l) (hm : n ≤ m) : few m l := ⟨Nat.le_trans h.1 hm, h.2⟩
structure Small (n : Nat) (b : Bundle) : Prop where
  c : few n b.1
  l : few n b.2.1
  p : fewP n b.2.2
theorem Small.fit {n : Nat} {b : Bundle} (h : Small n b) : Fit 1048576 b :=
  ⟨fun s hs => ⟨by have := h.c.2 s hs; omega, by have := h.c.2 s hs; omega⟩, fun s hs => ⟨by have := h.l.2 s hs; omega, by have := h.l.2 s hs; omega⟩,
    fun q hq => ⟨⟨by have := (h.p.2 q hq).1; omega, by have := (h.p.2 q hq).1; omega⟩, by have := (h.p.2 q hq).2; omega, by have := (h.p.2 q hq).2; omega⟩⟩
set_option maxRecDepth 4000 in
theorem made_eq {L : List Int} (hL : L.length ≤ 9223372036854775807) {d : List Int × Int} (hd : deckAt L d) :
    ∃ (b : Bundle) (d' : List Int × Int), law20_made 1048576 d = some (b, d') ∧ Small 3 b ∧ deckAt L d' := by
  unfold law20_made
  obtain ⟨r, d1, h1, hr, hd1⟩ := next_eq 1048576 hL hd 4 (by omega) (by omega)
  rw [show (4 : Int) = ((4 : Nat) : Int) from rfl, h1, callO_s]
  dsimp only
  let Q : Option (Bundle × (List Int × Int)) → Prop := fun o => ∃ (b : Bundle) (d' : List Int × Int), o = some (b, d') ∧ Small 3 b ∧ deckAt L d'
  show Q _
  -- the certificates
  refine iterG_post (fun x => ∃ t : Nat, x.1 = (t : Int) ∧ deckAt L (x.2.1, x.2.2.1) ∧ few (3 - t) x.2.2.2 ∧ t ≤ 3) (fun x => x.1.toNat) Q ?_ 1048576 _ ⟨r, rfl, hd1, ⟨by simp, by simp⟩, by omega⟩ (by show (r : Int).toNat < _; omega)
  rintro ⟨t, L1, k1, acc⟩ ⟨tn, ht, hdk, hacc, ht3⟩ K hK
  dsimp only at ht hdk hacc hK
  subst ht
  dsimp only [U4]
  by_cases h : 0 < tn
  · rw [bif_if, if_pos (by omega)]
    obtain ⟨s, d2, h2, hs, hd2⟩ := item_eq hL hdk
    rw [h2, callO_s, chk_if, if_pos (by have := hacc.1; omega), w64 (by omega) (by omega)]
    exact hK _ ⟨tn - 1, by show (tn : Int) - 1 = ((tn - 1 : Nat) : Int); omega, hd2, few_mono (few_snoc hacc hs) (by omega), by omega⟩ (by show ((tn : Int) - 1).toNat < (tn : Int).toNat; omega)
  · rw [bif_if, if_neg (by omega)]
    clear hK
    dsimp only [U3]
    obtain ⟨r, d1, h1, hr, hd1⟩ := next_eq 1048576 hL hdk 4 (by omega) (by omega)
    rw [h1, callO_s]
    dsimp only
    have hc : few 3 acc := few_mono hacc (by omega)
    -- the lists
    refine iterG_post (fun x => ∃ t : Nat, x.1 = (t : Int) ∧ deckAt L (x.2.1, x.2.2.1) ∧ x.2.2.2.1 = acc ∧ few (3 - t) x.2.2.2.2 ∧ t ≤ 3) (fun x => x.1.toNat) Q ?_ 1048576 _ ⟨r, rfl, hd1, rfl, ⟨by simp, by simp⟩, by omega⟩ (by show (r : Int).toNat < _; omega)
    rintro ⟨t, L2, k2, acc1, acc2⟩ ⟨tn, ht, hdk, ha1, hacc2, ht3⟩ K hK
    dsimp only at ht hdk ha1 hacc2 hK
    subst ht; subst ha1
    dsimp only [U5]
    by_cases h : 0 < tn
    · rw [bif_if, if_pos (by omega)]
      obtain ⟨s, d2, h2, hs, hd2⟩ := item_eq hL hdk
      rw [h2, callO_s, chk_if, if_pos (by have := hacc2.1; omega), w64 (by omega) (by omega)]
      exact hK _ ⟨tn - 1, by show (tn : Int) - 1 = ((tn - 1 : Nat) : Int); omega, hd2, rfl, few_mono (few_snoc hacc2 hs) (by omega), by omega⟩ (by show ((tn : Int) - 1).toNat < (tn : Int).toNat; omega)
    · rw [bif_if, if_neg (by omega)]
      clear hK
      dsimp only [U4]
      obtain ⟨r, d1, h1, hr, hd1⟩ := next_eq 1048576 hL hdk 3 (by omega) (by omega)
      rw [show (3 : Int) = ((3 : Nat) : Int) from rfl, h1, callO_s]
      dsimp only
      have hl : few 3 acc2 := few_mono hacc2 (by omega)
      -- the pairs
      refine iterG_post (fun x => ∃ t : Nat, x.1 = (t : Int) ∧ deckAt L (x.2.1, x.2.2.1) ∧ x.2.2.2.1 = acc1 ∧ x.2.2.2.2.1 = acc2 ∧ fewP (3 - t) x.2.2.2.2.2 ∧ t ≤ 3) (fun x => x.1.toNat) Q ?_ 1048576 _ ⟨r, rfl, hd1, rfl, rfl, ⟨by simp, by simp⟩, by omega⟩ (by show (r : Int).toNat < _; omega)
      rintro ⟨t, L3, k3, b1, b2, acc3⟩ ⟨tn, ht, hdk, hb1, hb2, hacc3, ht3⟩ K hK
      dsimp only at ht hdk hb1 hb2 hacc3 hK
      subst ht; subst hb1; subst hb2
      dsimp only [U6]
      by_cases h : 0 < tn
      · rw [bif_if, if_pos (by omega)]
        obtain ⟨s1, d2, h2, hs1, hd2⟩ := item_eq hL hdk
        rw [h2, callO_s]
        dsimp only
        obtain ⟨s2, d3, h3, hs2, hd3⟩ := item_eq hL hd2
        rw [h3, callO_s, letJ_eq]
        dsimp only
        obtain ⟨r4, d4, h4, hr4, hd4⟩ := next_eq 1048576 hL hd3 3 (by omega) (by omega)
        rw [h4, callO_s]
        dsimp only
        have fin : ∀ f g : Bs, f.length ≤ 3000 → g.length ≤ 3000 → Q (Vm.chk (decide ((acc3.length + 1) * 33 ≤ 140737488355328)) <| K (IntKind.i64.wrap ((tn : Int) - (1 : Int)), d4.1, d4.2, b1, b2, acc3 ++ ([(f, g)] : List (Bs × Bs)))) := by
          intro f g hf hg
          rw [chk_if, if_pos (by have := hacc3.1; omega), w64 (by omega) (by omega)]
          refine hK _ ⟨tn - 1, by show (tn : Int) - 1 = ((tn - 1 : Nat) : Int); omega, hd4, rfl, rfl, ?_, by omega⟩ (by show ((tn : Int) - 1).toNat < (tn : Int).toNat; omega)
          have := fewP_snoc hacc3 (s := (f, g)) hf hg
          exact ⟨by have := this.1; show (acc3 ++ [(f, g)]).length ≤ _; omega, this.2⟩
        by_cases h0 : r4 = 0
        · subst h0
          exact fin [] s2 (by simp) hs2
        · rw [show (((r4 : Nat) : Int) == 0) = false by simp; omega, cond_false]
          by_cases h1 : r4 = 1
          · subst h1
            exact fin s1 [] hs1 (by simp)
          · rw [show (((r4 : Nat) : Int) == 1) = false by simp; omega, cond_false]
            exact fin s1 s2 hs1 hs2
      · rw [bif_if, if_neg (by omega)]
        exact ⟨_, _, rfl, ⟨hc, hl, by have := hacc3.1; exact ⟨by show acc3.length ≤ 3; omega, hacc3.2⟩⟩, hdk⟩
end Go.Proofs.YtnllccjmbijjlaaGreat.Pl

/-
  BundleMerge: the law's function answers true. No program in sight.
-/
namespace Go.Proofs.YtnllccjmbijjlaaGreat.Pl
open Go Vm

theorem awakeM_eq : law20_awake 1048576 = some true := by kernel_rfl
/-- few and short -/
theorem few_eq (l : List Bs) : ∃ v, made_Few 1048576 l 10 200 = some v ∧ (v = true → l.length ≤ 10 ∧ ∀ s ∈ l, s.length ≤ 200) := by
  unfold made_Few
  by_cases h : 10 < l.length
  · rw [bif_if, if_pos (by omega)]; exact ⟨false, rfl, fun h => by cases h⟩
  · rw [bif_if, if_neg (by omega)]
    let Q : Option Bool → Prop := fun o => ∃ v, o = some v ∧ (v = true → l.length ≤ 10 ∧ ∀ s ∈ l, s.length ≤ 200)
    show Q _
    refine iterG_post (fun x => ∃ i : Nat, x = (i : Int) ∧ i ≤ l.length ∧ ∀ s ∈ l.take i, s.length ≤ 200) (fun x => l.length - x.toNat) Q ?_ 1048576 _ ⟨0, rfl, by omega, fun s hs => by cases hs⟩ (by show l.length - 0 < _; omega)
    rintro x ⟨i, rfl, hi, ha⟩ k hk
    by_cases h : i < l.length
    · simp only [bif_if, chk_if, Int.toNat_natCast]
      rw [if_pos (by omega), if_pos (by omega), if_pos (by omega)]
      by_cases h2 : 200 < (l.getD i []).length
      · rw [if_pos (by omega)]; exact ⟨false, rfl, fun h => by cases h⟩
      · rw [if_neg (by omega), w64 (by omega) (by omega)]
        refine hk _ ⟨i + 1, by omega, h, fun s hs => ?_⟩ (by show l.length - ((i : Int) + 1).toNat < l.length - (i : Int).toNat; omega)
        rw [take_snoc h] at hs
        rcases List.mem_append.1 hs with hs | hs
        · exact ha s hs
        · rw [List.mem_singleton.1 hs]
          have : l.getD i [] = l[i] := by simp [List.getD_eq_getElem?_getD, h]
          rw [← this]; omega
    · have hil : i = l.length := by omega
      subst hil
      rw [List.take_length] at ha
      rw [bif_if, if_neg (by omega)]
      exact ⟨true, rfl, fun _ => ⟨by omega, ha⟩⟩
theorem short_eq (b : Bundle) : ∃ v, law20_short 1048576 b = some v ∧ (v = true → Small 10 b) := by
  obtain ⟨c, l, p⟩ := b
  unfold law20_short
  by_cases h : 10 < p.length
  · rw [bif_if, if_pos (by show (p.length : Int) > 10; omega)]; exact ⟨false, rfl, fun h => by cases h⟩
  · rw [bif_if, if_neg (by show ¬ (p.length : Int) > 10; omega)]
    let Q : Option Bool → Prop := fun o => ∃ v, o = some v ∧ (v = true → Small 10 (c, l, p))
    show Q _
    refine iterG_post (fun x => ∃ i : Nat, x = ((i : Int), c, l, p) ∧ i ≤ p.length ∧ ∀ q ∈ p.take i, q.1.length ≤ 200 ∧ q.2.length ≤ 200) (fun x => p.length - x.1.toNat) Q ?_ 1048576 _ ⟨0, rfl, by omega, fun s hs => by cases hs⟩ (by show p.length - 0 < _; omega)
    rintro x ⟨i, rfl, hi, ha⟩ k hk
    dsimp only [U4]
    by_cases h : i < p.length
    · simp only [chk_or, chk_or', chk_bif, chk_bif', bif_or, chk_ort]
      simp only [chk_if, Int.toNat_natCast]
      rw [bif_if, if_pos (by omega), if_pos (by omega), if_pos (by omega)]
      have e : p.getD i (([] : Bs), ([] : Bs)) = p[i] := by simp [List.getD_eq_getElem?_getD, h]
      by_cases h2 : 200 < (p.getD i (([] : Bs), ([] : Bs))).1.length ∨ 200 < (p.getD i (([] : Bs), ([] : Bs))).2.length
      · rw [show (decide ((((p.getD i (([] : Bs), ([] : Bs))).1).length : Int) > 200) || decide ((((p.getD i (([] : Bs), ([] : Bs))).2).length : Int) > 200)) = true by rw [Bool.or_eq_true, decide_eq_true_eq, decide_eq_true_eq]; omega, cond_true]
        exact ⟨false, rfl, fun h => by cases h⟩
      · rw [show (decide ((((p.getD i (([] : Bs), ([] : Bs))).1).length : Int) > 200) || decide ((((p.getD i (([] : Bs), ([] : Bs))).2).length : Int) > 200)) = false by rw [Bool.or_eq_false_iff, decide_eq_false_iff_not, decide_eq_false_iff_not]; omega, cond_false, w64 (by omega) (by omega)]
        refine hk _ ⟨i + 1, rfl, h, fun s hs => ?_⟩ (by show p.length - ((i : Int) + 1).toNat < p.length - (i : Int).toNat; omega)
        rw [take_snoc h] at hs
        rcases List.mem_append.1 hs with hs | hs
        · exact ha s hs
        · rw [List.mem_singleton.1 hs, ← e]; omega
    · have hil : i = p.length := by omega
      subst hil
      rw [List.take_length] at ha
      rw [bif_if, if_neg (by omega)]
      clear hk
      dsimp only [U3]
      obtain ⟨v1, h1, hv1⟩ := few_eq c
      obtain ⟨v2, h2, hv2⟩ := few_eq l
      rw [h1, callO_s, h2]
      refine ⟨bif v1 then v2 else false, ?_, fun hv => ?_⟩
      · cases v1 <;> rfl
      · cases v1 with
        | false => cases hv
        | true =>
          obtain ⟨a1, a2⟩ := hv1 rfl
          obtain ⟨b1, b2⟩ := hv2 hv
          exact ⟨⟨a1, fun s hs => by have := a2 s hs; omega⟩, ⟨b1, fun s hs => by have := b2 s hs; omega⟩, ⟨by show p.length ≤ 10; omega, fun q hq => by have := ha q hq; omega⟩⟩
theorem SameStrings_eq (N : Nat) (l : List Bs) (hN : l.length < N) (hl : l.length ≤ 1099511627776) : ref14_SameStrings N l l = some true := by
  unfold ref14_SameStrings
  rw [show ((l.length : Int) != (l.length : Int)) = false by simp, cond_false]
  refine iterG_post (fun x => ∃ i : Nat, x = (i : Int) ∧ i ≤ l.length) (fun x => l.length - x.toNat) (fun o => o = some true) ?_ N _ ⟨0, rfl, by omega⟩ (by show l.length - 0 < N; omega)
  rintro x ⟨i, rfl, hi⟩ k hk
  rw [bif_if]
  by_cases h : i < l.length
  · rw [if_pos (by omega), show decide ((0 : Int) ≤ (i : Int)) = true from decide_eq_true (by omega), show decide ((i : Int) < (l.length : Int)) = true from decide_eq_true (by omega), chk_t, chk_t, chk_t, chk_t, show ((l.getD (i : Int).toNat ([] : Bs)) == (l.getD (i : Int).toNat ([] : Bs))) = true by simp, Bool.not_true, cond_false, w64 (by omega) (by omega)]
    exact hk _ ⟨i + 1, by omega, by omega⟩ (by show l.length - ((i : Int) + 1).toNat < l.length - (i : Int).toNat; omega)
  · rw [if_neg (by omega)]
theorem SameBundle_eq (N : Nat) (z : Bundle) (hN : z.1.length < N ∧ z.2.1.length < N ∧ z.2.2.length < N) (hl : z.1.length ≤ 1099511627776 ∧ z.2.1.length ≤ 1099511627776 ∧ z.2.2.length ≤ 1099511627776) : ref14_SameBundle N z z = some true := by
  unfold ref14_SameBundle
  rw [show ((z.2.2.length : Int) != (z.2.2.length : Int)) = false by simp, cond_false]
  refine iterG_post (fun x => ∃ i : Nat, x = ((i : Int), z.1, z.2.1, z.2.2, z.1, z.2.1, z.2.2) ∧ i ≤ z.2.2.length) (fun x => z.2.2.length - x.1.toNat) (fun o => o = some true) ?_ N _ ⟨0, rfl, by omega⟩ (by show z.2.2.length - 0 < N; omega)
  rintro x ⟨i, rfl, hi⟩ k hk
  dsimp only [U7]
  rw [bif_if]
  by_cases h : i < z.2.2.length
  · rw [if_pos (by omega), show decide ((0 : Int) ≤ (i : Int)) = true from decide_eq_true (by omega), show decide ((i : Int) < (z.2.2.length : Int)) = true from decide_eq_true (by omega), chk_t, chk_t, chk_t, chk_t]
    generalize z.2.2.getD (i : Int).toNat (([] : Bs), ([] : Bs)) = e
    rw [show (!((e.1 == e.1) && ((e.2 == e.2) && true))) = false by simp, cond_false, w64 (by omega) (by omega)]
    exact hk _ ⟨i + 1, by rw [show ((i + 1 : Nat) : Int) = (i : Int) + 1 by omega], by omega⟩ (by show z.2.2.length - ((i : Int) + 1).toNat < z.2.2.length - (i : Int).toNat; omega)
  · rw [if_neg (by omega)]
    dsimp only [U6]
    rw [SameStrings_eq N z.1 hN.1 hl.1, callO_s, SameStrings_eq N z.2.1 hN.2.1 hl.2.1]
    rfl

/-! ### each once, in the order of the first ones -/
def app {α : Type} [DecidableEq α] (acc : List α) (x : α) : List α := if x ∈ acc then acc else acc ++ [x]
def dd {α : Type} [DecidableEq α] (acc l : List α) : List α := l.foldl app acc
theorem app_nodup {α : Type} [DecidableEq α] {acc : List α} (h : acc.Nodup) (x : α) : (app acc x).Nodup := by
  unfold app
  split
  · exact h
  · rename_i hx
    rw [List.nodup_append]
    exact ⟨h, by simp, fun a ha b hb => by rw [List.mem_singleton.1 hb]; exact fun e => hx (e ▸ ha)⟩
theorem dd_nodup {α : Type} [DecidableEq α] : ∀ (l : List α) {acc : List α}, acc.Nodup → (dd acc l).Nodup := by
  intro l
  induction l with
  | nil => intro acc h; exact h
  | cons x l ih => intro acc h; exact ih (app_nodup h x)
theorem dd_self {α : Type} [DecidableEq α] : ∀ (l acc : List α), (acc ++ l).Nodup → dd acc l = acc ++ l := by
  intro l
  induction l with
  | nil => intro acc _; simp [dd]
  | cons x l ih =>
    intro acc h
    have hx : x ∉ acc := fun hm => by
      rw [List.nodup_append] at h
      exact h.2.2 x hm x List.mem_cons_self rfl
    show dd (app acc x) l = _
    unfold app
    rw [if_neg hx, ih (acc ++ [x]) (by simpa using h)]
    simp
theorem dd_append {α : Type} [DecidableEq α] (c l : List α) (h : c.Nodup) : dd [] (c ++ l) = dd c l := by
  show (c ++ l).foldl app [] = _
  rw [List.foldl_append]
  have := dd_self c [] (by simpa using h)
  rw [show c.foldl app [] = c from this]; rfl
theorem app_mem {α : Type} [DecidableEq α] {acc : List α} {x y : α} (h : y ∈ app acc x) : y ∈ acc ∨ y = x := by
  unfold app at h
  split at h
  · exact .inl h
  · rcases List.mem_append.1 h with h | h
    · exact .inl h
    · exact .inr (List.mem_singleton.1 h)
theorem app_len {α : Type} [DecidableEq α] (acc : List α) (x : α) : (app acc x).length ≤ acc.length + 1 := by unfold app; split <;> simp
theorem dd_mem {α : Type} [DecidableEq α] : ∀ (l : List α) {acc : List α} {y : α}, y ∈ dd acc l → y ∈ acc ∨ y ∈ l := by
  intro l
  induction l with
  | nil => intro acc y h; exact .inl h
  | cons x l ih =>
    intro acc y h
    rcases ih (show y ∈ dd (app acc x) l from h) with h | h
    · rcases app_mem h with h | h
      · exact .inl h
      · exact .inr (h ▸ List.mem_cons_self)
    · exact .inr (List.mem_cons_of_mem _ h)
theorem dd_len {α : Type} [DecidableEq α] : ∀ (l acc : List α), (dd acc l).length ≤ acc.length + l.length := by
  intro l
  induction l with
  | nil => intro acc; exact Nat.le_refl _
  | cons x l ih =>
    intro acc
    have h1 := ih (app acc x)
    have h2 := app_len acc x
    show (dd (app acc x) l).length ≤ _
    simp only [List.length_cons]; omega

/-! ### a loop over a list that folds -/
theorem iterG_fold {X Y S E ρ : Type} {B : X → (X → Option ρ) → (Y → Option ρ) → Option ρ} {kx : Y → Option ρ} (mk : Int → S → X) (l : List E) (d : E) (f : S → E → S) (fin : S → Option ρ) (I : Nat → S → Prop)
    (h : ∀ (i : Nat) (s : S) (k : X → Option ρ), i < l.length → I i s → B (mk (i : Int) s) k kx = k (mk ((i : Int) + 1) (f s (l.getD i d))) ∧ I (i + 1) (f s (l.getD i d)))
    (hend : ∀ (s : S) (k : X → Option ρ), I l.length s → B (mk (l.length : Int) s) k kx = fin s) (N : Nat) (s : S) (h0 : I 0 s) (hN : l.length < N) : iterG B N (mk 0 s) kx = fin (l.foldl f s) := by
  have key : ∀ (n i : Nat) (s : S), I i s → i ≤ l.length → l.length - i < n → iterG B n (mk (i : Int) s) kx = fin ((l.drop i).foldl f s) := by
    intro n
    induction n with
    | zero => intro i s _ _ h; omega
    | succ n ih =>
      intro i s hI hi hn
      rw [iterG_s]
      by_cases hl : i < l.length
      · obtain ⟨h1, h2⟩ := h i s (fun x' => iterG B n x' kx) hl hI
        rw [h1, List.drop_eq_getElem_cons hl]
        show _ = fin ((l.drop (i + 1)).foldl f (f s l[i]))
        rw [show l.getD i d = l[i] by simp [List.getD_eq_getElem?_getD, hl]] at h2 ⊢
        exact ih (i + 1) _ h2 (by omega) (by omega)
      · have : i = l.length := by omega
        subst this
        rw [hend s _ hI, List.drop_length]; rfl
  exact key N 0 s h0 (by omega) (by omega)

theorem iterG_foldK {X Y S E ρ : Type} {B : X → (X → Option ρ) → (Y → Option ρ) → Option ρ} {kx : Y → Option ρ} (mk : Int → S → X) (ex : S → Y) (l : List E) (d : E) (f : S → E → S) (I : Nat → S → Prop)
    (h : ∀ (i : Nat) (s : S) (k : X → Option ρ), i < l.length → I i s → B (mk (i : Int) s) k kx = k (mk ((i : Int) + 1) (f s (l.getD i d))) ∧ I (i + 1) (f s (l.getD i d)))
    (hend : ∀ (s : S) (k : X → Option ρ), I l.length s → B (mk (l.length : Int) s) k kx = kx (ex s)) (N : Nat) (s : S) (h0 : I 0 s) (hN : l.length < N) : iterG B N (mk 0 s) kx = kx (ex (l.foldl f s)) :=
  iterG_fold mk l d f (fun s => kx (ex s)) I h hend N s h0 hN
/-! ### the program's -/
abbrev PT : Ty := .str (.str .nil)
def ones (l : List (Bs × Bs)) : List ((Bs × Bs) × Bool) := l.map (fun p => (p, true))
theorem same_pair (a b : Bs × Bs) : Ty.same PT a b = decide (a = b) := by
  obtain ⟨a1, a2⟩ := a
  obtain ⟨b1, b2⟩ := b
  show ((a1 == b1) && ((a2 == b2) && true)) = _
  rw [Bool.eq_iff_iff]
  simp
theorem mget_ones (k : Bs × Bs) : ∀ l : List (Bs × Bs), (mget PT k (ones l)).getD false = decide (k ∈ l) := by
  intro l
  induction l with
  | nil => rfl
  | cons p l ih =>
    show (bif Ty.same PT k p then some true else mget PT k (ones l)).getD false = _
    rw [same_pair]
    by_cases h : k = p
    · simp [h]
    · rw [decide_eq_false h, cond_false, ih]
      simp [h]
theorem mput_ones (k : Bs × Bs) : ∀ l : List (Bs × Bs), k ∉ l → mput PT k true (ones l) = ones (l ++ [k]) := by
  intro l
  induction l with
  | nil => intro _; rfl
  | cons p l ih =>
    intro h
    have h1 : ¬ k = p := fun e => h (e ▸ List.mem_cons_self)
    show (bif Ty.same PT k p then (p, true) :: ones l else (p, true) :: mput PT k true (ones l)) = _
    rw [same_pair, decide_eq_false h1, cond_false, ih (fun hm => h (List.mem_cons_of_mem _ hm))]
    rfl
theorem first_eq (N : Nat) (l : List (Bs × Bs)) (a b : Bs) : bundle_seen_first N (ones l) a b = some (decide ((a, b) ∉ l), ones (app l (a, b))) := by
  unfold bundle_seen_first
  rw [show (mget (.str (.str .nil)) (a, b) (ones l)).getD false = decide ((a, b) ∈ l) from mget_ones (a, b) l]
  unfold app
  by_cases h : (a, b) ∈ l
  · rw [decide_eq_true h, cond_true, if_pos h]; simp [h]
  · rw [decide_eq_false h, cond_false, if_neg h, show mput (.str (.str .nil)) (a, b) true (ones l) = _ from mput_ones (a, b) l h]; simp [h]
def tag0 (l : List Bs) : List (Bs × Bs) := l.map (fun s => (s, ([] : Bs)))
theorem mem_tag0 (s : Bs) (l : List Bs) : ((s, ([] : Bs)) ∈ tag0 l) ↔ s ∈ l := by
  unfold tag0
  rw [List.mem_map]
  exact ⟨fun ⟨x, hx, he⟩ => by injection he with he; rw [← he]; exact hx, fun h => ⟨s, h, rfl⟩⟩
theorem app_tag0 (l : List Bs) (s : Bs) : app (tag0 l) (s, []) = tag0 (app l s) := by
  unfold app
  by_cases h : s ∈ l
  · rw [if_pos ((mem_tag0 s l).2 h), if_pos h]
  · rw [if_neg (fun hm => h ((mem_tag0 s l).1 hm)), if_neg h]
    simp [tag0]
theorem distinct_eq (N : Nat) (l more : List Bs) (hN : (l ++ more).length < N) (hl : (l ++ more).length ≤ 1000000) : bundle_distinct N l more = some (dd [] (l ++ more)) := by
  unfold bundle_distinct
  have hln := hl
  rw [List.length_append] at hln
  rw [chk_if, if_pos (by omega), chk_if, if_pos (by omega)]
  refine iterG_fold (S := List Bs) (fun i s => (i, ones (tag0 s), l ++ more, s)) (l ++ more) [] app (fun s => some s) (fun i s => s.length ≤ i) ?_ ?_ N [] (by simp) hN
  · intro i s k hi hI
    dsimp only [U4]
    rw [bif_if, if_pos (by omega), chk_if, if_pos (by omega), chk_if, if_pos (by omega), chk_if, if_pos (by rw [Int.toNat_natCast]; exact hi), Int.toNat_natCast, first_eq, callO_s]
    dsimp only
    refine ⟨?_, by have := app_len s ((l ++ more).getD i []); omega⟩
    rw [app_tag0, w64 (by omega) (by omega)]
    generalize (l ++ more).getD i [] = x
    by_cases h : x ∈ s
    · rw [show decide ((x, ([] : Bs)) ∉ tag0 s) = false by simp [mem_tag0, h], cond_false]
      unfold app; rw [if_pos h]
    · rw [show decide ((x, ([] : Bs)) ∉ tag0 s) = true by simp [mem_tag0, h], cond_true, chk_if, if_pos (by omega)]
      unfold app; rw [if_neg h]
  · intro s k _
    dsimp only [U4]
    rw [bif_if, if_neg (by omega)]

/-! ### what is merged -/
def mg (z b : Bundle) : Bundle := (dd z.1 b.1, dd z.2.1 b.2.1, dd z.2.2 b.2.2)
def mgs (l : List Bundle) : Bundle := l.foldl mg ([], [], [])
def mergeP (l : List Bundle) : Bundle × Int := if bundleE (mgs l) ≠ 0 then (([], [], []), bundleE (mgs l)) else (mgs l, 0)
structure Inv (n : Nat) (z : Bundle) : Prop where
  s : Small n z
  c : z.1.Nodup
  l : z.2.1.Nodup
theorem Inv.step {n : Nat} {z b : Bundle} (h : Inv n z) (hb : Small 100 b) : Inv (n + 100) (mg z b) := by
  have key : ∀ {n : Nat} {x y : List Bs}, few n x → few 100 y → few (n + 100) (dd x y) := by
    intro n x y hx hy
    refine ⟨by have := dd_len y x; have := hx.1; have := hy.1; omega, fun s hs => ?_⟩
    rcases dd_mem y hs with h | h
    · exact hx.2 s h
    · exact hy.2 s h
  refine ⟨⟨key h.s.c hb.c, key h.s.l hb.l, by have := dd_len b.2.2 z.2.2; have := h.s.p.1; have := hb.p.1; show (dd _ _).length ≤ _; omega, fun s hs => ?_⟩, dd_nodup _ h.c, dd_nodup _ h.l⟩
  rcases dd_mem b.2.2 hs with h' | h'
  · exact h.s.p.2 s h'
  · exact hb.p.2 s h'
theorem Inv.zero : Inv 0 (([], [], []) : Bundle) := ⟨⟨⟨by simp, fun _ h => by cases h⟩, ⟨by simp, fun _ h => by cases h⟩, ⟨by simp, fun _ h => by cases h⟩⟩, by simp, by simp⟩
theorem Inv.all : ∀ (l : List Bundle) {n : Nat} {z : Bundle}, Inv n z → (∀ b ∈ l, Small 100 b) → Inv (n + 100 * l.length) (l.foldl mg z) := by
  intro l
  induction l with
  | nil => intro n z h _; exact h
  | cons b l ih =>
    intro n z h hb
    have := ih (h.step (hb b List.mem_cons_self)) (fun c hc => hb c (List.mem_cons_of_mem _ hc))
    rw [show n + 100 * (b :: l).length = n + 100 + 100 * l.length by simp only [List.length_cons]; omega]
    exact this
theorem getD_small {l : List Bundle} (hl : ∀ b ∈ l, Small 100 b) {i : Nat} (hi : i < l.length) : Small 100 (l.getD i (([] : List Bs), ([] : List Bs), ([] : List (Bs × Bs)))) := hl _ (getD_mem _ hi)

theorem Merge_eq (N : Nat) (hN : N = 1048576) (l : List Bundle) (hlen : l.length ≤ 1000) (hl : ∀ b ∈ l, Small 100 b) : bundle_Merge N l = some (mergeP l) := by
  have hinv := Inv.all l Inv.zero hl
  unfold bundle_Merge
  refine Eq.trans (iterG_fold (S := Bundle) (fun i z => (i, z.1, z.2.1, ones z.2.2, z.2.2)) l (([] : List Bs), ([] : List Bs), ([] : List (Bs × Bs))) mg (fun z => if bundleE z ≠ 0 then some ((([] : List Bs), ([] : List Bs), ([] : List (Bs × Bs))), bundleE z) else some (z, 0)) (fun i z => Inv (100 * i) z ∧ i ≤ 1000) ?_ ?_ N (([], [], []) : Bundle) ⟨Inv.zero, by omega⟩ (by omega)) ?_
  · intro i z k hi ⟨hI, hi2⟩
    have hb := getD_small hl hi
    dsimp only [U5]
    rw [bif_if, if_pos (by omega), chk_if, if_pos (by omega), chk_if, if_pos (by omega), Int.toNat_natCast]
    generalize l.getD i (([] : List Bs), ([] : List Bs), ([] : List (Bs × Bs))) = b at hb ⊢
    have b1 := hb.c.1; have b2 := hb.l.1; have b3 := hb.p.1
    have z1 := hI.s.c.1; have z2 := hI.s.l.1; have z3 := hI.s.p.1
    rw [distinct_eq N z.1 b.1 (by rw [List.length_append]; omega) (by rw [List.length_append]; omega), callO_s, dd_append _ _ hI.c, distinct_eq N z.2.1 b.2.1 (by rw [List.length_append]; omega) (by rw [List.length_append]; omega), callO_s, dd_append _ _ hI.l]
    refine ⟨?_, ⟨by rw [show 100 * (i + 1) = 100 * i + 100 by omega]; exact hI.step hb, by omega⟩⟩
    refine iterG_fold (S := List (Bs × Bs)) (fun j s => (j, dd z.1 b.1, dd z.2.1 b.2.1, ones s, s)) b.2.2 (([] : Bs), ([] : Bs)) app (fun s => k ((i : Int) + 1, dd z.1 b.1, dd z.2.1 b.2.1, ones s, s)) (fun j s => s.length ≤ 100 * i + j) ?_ ?_ N z.2.2 (by omega) (by omega)
    · intro j s k' hj hI'
      dsimp only [U5]
      rw [bif_if, if_pos (by omega), chk_if, if_pos (by omega), chk_if, if_pos (by omega), Int.toNat_natCast, first_eq, callO_s]
      dsimp only
      refine ⟨?_, by have := app_len s (b.2.2.getD j (([] : Bs), ([] : Bs))); omega⟩
      rw [w64 (by omega) (by omega)]
      generalize b.2.2.getD j (([] : Bs), ([] : Bs)) = x
      by_cases h : x ∈ s
      · rw [show decide ((x.1, x.2) ∉ s) = false by simp [h], cond_false]
        show k' (_, _, _, ones (app s x), s) = _
        unfold app; rw [if_pos h]
      · rw [show decide ((x.1, x.2) ∉ s) = true by simp [h], cond_true, chk_if, if_pos (by omega)]
        show k' (_, _, _, ones (app s x), s ++ [x]) = _
        unfold app; rw [if_neg h]
    · intro s k' _
      dsimp only [U5]
      rw [bif_if, if_neg (by omega)]
      dsimp only [U4]
      rw [w64 (by omega) (by omega)]
  · intro z k ⟨hI, hi2⟩
    dsimp only [U5]
    rw [bif_if, if_neg (by omega)]
    dsimp only [U3]
    have hfit : Fit N z := by rw [hN]; exact hI.s.fit
    have hck := Check_eq N z (by omega) hfit
    rw [show bundle_Check N (z.1, z.2.1, z.2.2) = some (bundleE z) from hck, callO_s]
    by_cases h : bundleE z = 0
    · rw [h]; rfl
    · rw [show (bundleE z != (0 : Int)) = true by simpa using h, cond_true, if_pos h]
  · show (if bundleE (mgs l) ≠ 0 then _ else _) = _
    unfold mergeP
    split <;> rfl

theorem contains_eq (N : Nat) (l : List Bs) (s : Bs) (hN : l.length < N) (hl : l.length ≤ 1000000) : ref14_contains N l s = some (decide (s ∈ l)) := by
  unfold ref14_contains
  refine iterG_of (fun x => ∃ i : Nat, x = (i : Int) ∧ i ≤ l.length ∧ s ∉ l.take i) (fun x => l.length - x.toNat) (fun _ => some (decide (s ∈ l))) ?_ N _ ⟨0, rfl, by omega, by simp⟩ (by show l.length - 0 < N; omega)
  rintro x ⟨i, rfl, hi, hno⟩ k hk
  by_cases h : i < l.length
  · rw [bif_if, if_pos (by omega), chk_if, if_pos (by omega), chk_if, if_pos (by omega), Int.toNat_natCast]
    have e : l.getD i ([] : Bs) = l[i] := by simp [List.getD_eq_getElem?_getD, h]
    by_cases hs : l.getD i ([] : Bs) = s
    · rw [show (l.getD i ([] : Bs) == s) = true by simpa using hs, cond_true]
      have : s ∈ l := by rw [← hs]; exact getD_mem _ h
      simp [this]
    · rw [show (l.getD i ([] : Bs) == s) = false by simpa using hs, cond_false, w64 (by omega) (by omega)]
      refine hk _ ⟨i + 1, by omega, h, fun hm => ?_⟩ (by show l.length - ((i : Int) + 1).toNat < l.length - (i : Int).toNat; omega)
      rw [take_snoc h] at hm
      rcases List.mem_append.1 hm with hm | hm
      · exact hno hm
      · exact hs (by rw [e, ← List.mem_singleton.1 hm])
  · have hil : i = l.length := by omega
    subst hil
    rw [List.take_length] at hno
    rw [bif_if, if_neg (by omega)]
    simp [hno]
theorem any_eq {ρ : Type} (N : Nat) (a b : Bs) (u v : List Bs) (s : List (Bs × Bs)) (hN : s.length < N) (hs : s.length ≤ 1000000) (kx : Bool × Bs × Bs × List Bs × List Bs × List (Bs × Bs) → Option ρ) :
    iterG (X := Bool × Int × Bs × Bs × List Bs × List Bs × List (Bs × Bs)) (Y := (Bool × Bs × Bs × List Bs × List Bs × List (Bs × Bs))) (U7 fun t13g t72g b35840_0g b35840_1g l1008192g l1016384g l1024576g k9 x10 =>
 bif decide (t72g < (s.length : Int)) then (Vm.chk (decide ((0 : Int) ≤ t72g)) <|
 Vm.chk (decide (t72g < (l1024576g.length : Int))) <|
 Vm.chk (decide (t72g.toNat < l1024576g.length)) <|
 Vm.chk (((!t13g) || (!(!t13g)))) <|
 Vm.chk (((!t13g) || (!(!t13g)))) <|
 let x80 : Bool := ((b35840_0g == ((l1024576g.getD t72g.toNat (([] : Bs), ([] : Bs))).1)) && ((b35840_1g == ((l1024576g.getD t72g.toNat (([] : Bs), ([] : Bs))).2)) && true))
 Vm.chk (bif t13g then true else !t13g) <|
 Vm.chk (bif t13g then true else true) <|
 k9 (bif t13g then true else x80, IntKind.i64.wrap (t72g + (1 : Int)), b35840_0g, b35840_1g, l1008192g, l1016384g, l1024576g))
 else (x10 (t13g, b35840_0g, b35840_1g, l1008192g, l1016384g, l1024576g))) N (false, 0, a, b, u, v, s) kx = kx (decide ((a, b) ∈ s), a, b, u, v, s) := by
  refine Eq.trans (iterG_fold (S := Bool) (fun i t => (t, i, a, b, u, v, s)) s (([] : Bs), ([] : Bs)) (fun t e => t || decide ((a, b) = e)) (fun t => kx (t, a, b, u, v, s)) (fun _ _ => True) ?_ ?_ N false trivial hN) ?_
  · intro i t k hi _
    refine ⟨?_, trivial⟩
    dsimp only [U7]
    rw [bif_if, if_pos (by omega), chk_if, if_pos (by omega), chk_if, if_pos (by omega), chk_if, if_pos (by rw [Int.toNat_natCast]; exact hi), Int.toNat_natCast, chk_or, chk_or, chk_bif, chk_bif', bif_or, w64 (by omega) (by omega)]
    generalize s.getD i (([] : Bs), ([] : Bs)) = e
    rw [show ((a == e.1) && ((b == e.2) && true)) = decide ((a, b) = e) from same_pair (a, b) e]
  · intro t k _
    dsimp only [U7]
    rw [bif_if, if_neg (by omega)]
  · have key : ∀ (l : List (Bs × Bs)) (t : Bool), l.foldl (fun t e => t || decide ((a, b) = e)) t = (t || decide ((a, b) ∈ l)) := by
      intro l
      induction l with
      | nil => intro t; simp
      | cons e l ih =>
        intro t
        show l.foldl _ (t || decide ((a, b) = e)) = _
        rw [ih, Bool.or_assoc]
        congr 1
        by_cases h : (a, b) = e <;> simp [h]
    rw [key]; rfl
theorem app_if {α β : Type} [DecidableEq α] {c : Prop} [Decidable c] (s : List α) (x : α) {bd : Bool} (hb : bd = true ↔ x ∈ s) (h : c) (k : List α → Option β) : (bif !bd then (Vm.chk (decide c) <| k (s ++ [x])) else k s) = k (app s x) := by
  unfold app
  by_cases hx : x ∈ s
  · rw [hb.2 hx, if_pos hx]; rfl
  · rw [show bd = false by cases bd with | false => rfl | true => exact absurd (hb.1 rfl) hx, if_neg hx]
    show Vm.chk (decide c) _ = _
    rw [chk_if, if_pos h]
theorem refMerge_eq (N : Nat) (hN : N = 1048576) (l : List Bundle) (hlen : l.length ≤ 1000) (hl : ∀ b ∈ l, Small 100 b) : ref14_Merge N l = some (mergeP l) := by
  unfold ref14_Merge
  refine Eq.trans (iterG_fold (S := Bundle) (fun i z => (i, z.2.2, z.2.1, z.1)) l (([] : List Bs), ([] : List Bs), ([] : List (Bs × Bs))) mg (fun z => if bundleE z ≠ 0 then some ((([] : List Bs), ([] : List Bs), ([] : List (Bs × Bs))), bundleE z) else some (z, 0)) (fun i z => Inv (100 * i) z ∧ i ≤ 1000) ?_ ?_ N (([], [], []) : Bundle) ⟨Inv.zero, by omega⟩ (by omega)) ?_
  · intro i z k hi ⟨hI, hi2⟩
    have hb := getD_small hl hi
    dsimp only [U4]
    rw [bif_if, if_pos (by omega), chk_if, if_pos (by omega), chk_if, if_pos (by omega), Int.toNat_natCast]
    generalize l.getD i (([] : List Bs), ([] : List Bs), ([] : List (Bs × Bs))) = b at hb ⊢
    have b1 := hb.c.1; have b2 := hb.l.1; have b3 := hb.p.1
    have z1 := hI.s.c.1; have z2 := hI.s.l.1; have z3 := hI.s.p.1
    refine ⟨?_, ⟨by rw [show 100 * (i + 1) = 100 * i + 100 by omega]; exact hI.step hb, by omega⟩⟩
    -- the certificates
    refine Eq.trans (iterG_foldK (S := List Bs) (fun j s => (j, b.1, b.2.1, b.2.2, s, z.2.2, z.2.1)) (fun s => (b.1, b.2.1, b.2.2, s, z.2.2, z.2.1)) b.1 ([] : Bs) app (fun j s => s.length ≤ 100 * i + j) ?_ (fun s k' _ => ?_) N z.1 (by omega) (by omega)) ?_
    · intro j s k' hj hI'
      dsimp only [U7]
      rw [bif_if, if_pos (by omega), chk_if, if_pos (by omega), chk_if, if_pos (by omega), Int.toNat_natCast, contains_eq N s _ (by omega) (by omega), callO_s, w64 (by omega) (by omega)]
      refine ⟨app_if (c := (s.length + 1) * 17 ≤ 140737488355328) s _ (by simp) (by omega) (fun q => k' ((j : Int) + 1, b.1, b.2.1, b.2.2, q, z.2.2, z.2.1)), by have := app_len s (b.1.getD j ([] : Bs)); omega⟩
    · dsimp only [U7]
      rw [bif_if, if_neg (by omega)]
    dsimp only [U6]
    -- the lists
    refine Eq.trans (iterG_foldK (S := List Bs) (fun j s => (j, b.1, b.2.1, b.2.2, dd z.1 b.1, s, z.2.2)) (fun s => (b.1, b.2.1, b.2.2, dd z.1 b.1, s, z.2.2)) b.2.1 ([] : Bs) app (fun j s => s.length ≤ 100 * i + j) ?_ (fun s k' _ => ?_) N z.2.1 (by omega) (by omega)) ?_
    · intro j s k' hj hI'
      dsimp only [U7]
      rw [bif_if, if_pos (by omega), chk_if, if_pos (by omega), chk_if, if_pos (by omega), Int.toNat_natCast, contains_eq N s _ (by omega) (by omega), callO_s, w64 (by omega) (by omega)]
      refine ⟨app_if (c := (s.length + 1) * 17 ≤ 140737488355328) s _ (by simp) (by omega) (fun q => k' ((j : Int) + 1, b.1, b.2.1, b.2.2, dd z.1 b.1, q, z.2.2)), by have := app_len s (b.2.1.getD j ([] : Bs)); omega⟩
    · dsimp only [U7]
      rw [bif_if, if_neg (by omega)]
    dsimp only [U6]
    -- the pairs
    refine Eq.trans (iterG_foldK (S := List (Bs × Bs)) (fun j s => (j, dd z.1 b.1, dd z.2.1 b.2.1, s)) (fun s => (dd z.1 b.1, dd z.2.1 b.2.1, s)) b.2.2 (([] : Bs), ([] : Bs)) app (fun j s => s.length ≤ 100 * i + j) ?_ (fun s k' _ => ?_) N z.2.2 (by omega) (by omega)) ?_
    · intro j s k' hj hI'
      dsimp only [U4]
      rw [bif_if, if_pos (by omega), chk_if, if_pos (by omega), chk_if, if_pos (by omega), Int.toNat_natCast, any_eq N _ _ _ _ s (by omega) (by omega)]
      dsimp only [U6]
      rw [w64 (by omega) (by omega)]
      refine ⟨app_if (c := (s.length + 1) * 33 ≤ 140737488355328) s (b.2.2.getD j (([] : Bs), ([] : Bs))) (by simp) (by omega) (fun q => k' ((j : Int) + 1, dd z.1 b.1, dd z.2.1 b.2.1, q)), by have := app_len s (b.2.2.getD j (([] : Bs), ([] : Bs))); omega⟩
    · dsimp only [U4]
      rw [bif_if, if_neg (by omega)]
    dsimp only [U3]
    rw [w64 (by omega) (by omega)]
    rfl
  · intro z k ⟨hI, hi2⟩
    dsimp only [U4]
    rw [bif_if, if_neg (by omega)]
    dsimp only [U3]
    have hfit : Fit N z := by rw [hN]; exact hI.s.fit
    have hck := CheckBundle_eq N z (by omega) hfit
    rw [show ref14_CheckBundle N (z.1, z.2.1, z.2.2) = some (bundleE z) from hck, callO_s]
    by_cases h : bundleE z = 0
    · rw [h]; rfl
    · rw [show (bundleE z != (0 : Int)) = true by simpa using h, cond_true, if_pos h]
  · show (if bundleE (mgs l) ≠ 0 then _ else _) = _
    unfold mergeP
    split <;> rfl
theorem mergeP_len (l : List Bundle) (hlen : l.length ≤ 10) (hl : ∀ b ∈ l, Small 100 b) : (mergeP l).1.1.length ≤ 1000 ∧ (mergeP l).1.2.1.length ≤ 1000 ∧ (mergeP l).1.2.2.length ≤ 1000 := by
  have h := Inv.all l Inv.zero hl
  unfold mergeP
  split
  · simp
  · have h1 := h.s.c.1; have h2 := h.s.l.1; have h3 := h.s.p.1
    refine ⟨?_, ?_, ?_⟩
    · show (List.foldl mg ([], [], []) l).1.length ≤ _; omega
    · show (List.foldl mg ([], [], []) l).2.1.length ≤ _; omega
    · show (List.foldl mg ([], [], []) l).2.2.length ≤ _; omega
theorem Small.more {n m : Nat} {b : Bundle} (h : Small n b) (hm : n ≤ m) : Small m b := ⟨few_mono h.c hm, few_mono h.l hm, Nat.le_trans h.p.1 hm, h.p.2⟩

theorem merge_law (N : Nat) (hN : N = 1048576) (p0 : Bundle) (L : List Int) (hL : L.length ≤ 9223372036854775807) (n : Nat) (hn : n < 256) : law20_BundleMerge N p0 L (n : Int) = some true := by
  unfold law20_BundleMerge
  obtain ⟨v, hv, hsm⟩ := short_eq p0
  rw [show law20_short N p0 = some v by rw [hN]; exact hv, callO_s]
  cases v with
  | false => rw [show (!false) = true from rfl, cond_true, hN, awakeM_eq]; rfl
  | true =>
    rw [show (!true) = false from rfl, cond_false]
    have hp := (hsm rfl).more (m := 100) (by omega)
    rw [show made_New N L = some (L, 0) from rfl, callO_s]
    obtain ⟨a, d1, ha, hsa, hd1⟩ := made_eq hL (d := (L, 0)) ⟨0, rfl, by omega⟩
    rw [show law20_made N (L, 0) = some (a, d1) by rw [hN]; exact ha, callO_s]
    dsimp only
    obtain ⟨b, d2, hb, hsb, hd2⟩ := made_eq hL hd1
    rw [show law20_made N d1 = some (b, d2) by rw [hN]; exact hb, callO_s]
    dsimp only
    have hsa := hsa.more (m := 100) (by omega)
    have hsb := hsb.more (m := 100) (by omega)
    have hm : (n : Int).tmod 6 = ((n % 6 : Nat) : Int) := by rw [Int.tmod_eq_emod_of_nonneg (by omega)]; omega
    have hlt : n % 6 < 6 := Nat.mod_lt _ (by omega)
    rw [hm]
    generalize n % 6 = m at hlt
    rw [w64 (x := (m : Int)) (by omega) (by omega), w64 (x := 60 + (m : Int)) (by omega) (by omega)]
    refine iterG_post (fun x => ∃ (i : Nat) (acc : List Bs), x = ((i : Int), p0.1, p0.2.1, p0.2.2, a.1, a.2.1, a.2.2, b.1, b.2.1, b.2.2, acc) ∧ i ≤ 60 + m ∧ few i acc) (fun x => 60 + m - x.1.toNat) (fun o => o = some true) ?_ N _ ⟨0, [], rfl, by omega, by simp, fun _ h => by cases h⟩ (by show 60 + m - 0 < _; omega)
    rintro x ⟨i, acc, rfl, hi, hacc⟩ K hK
    dsimp only [U11]
    by_cases h : i < 60 + m
    · rw [bif_if, if_pos (by omega), show List.all ([IntKind.u8.wrap (i : Int)] : List Int) isByte = true by simp [isByte_w8], chk_t, chk_if, if_pos (by simp), chk_if, if_pos (by have := hacc.1; omega), w64 (by omega) (by omega)]
      refine hK _ ⟨i + 1, _, rfl, h, few_snoc hacc (by simp)⟩ (by show 60 + m - ((i : Int) + 1).toNat < 60 + m - (i : Int).toNat; omega)
    · rw [bif_if, if_neg (by omega)]
      clear hK
      dsimp only [U10]
      have hf : Small 100 ((acc, ([] : List Bs), ([] : List (Bs × Bs))) : Bundle) := ⟨few_mono hacc (by omega), ⟨by simp, fun _ h => by cases h⟩, ⟨by simp, fun _ h => by cases h⟩⟩
      have hall : ∀ t ∈ ([([(p0.1, p0.2.1, p0.2.2), (a.1, a.2.1, a.2.2)] : List Bundle), ([(a.1, a.2.1, a.2.2), (b.1, b.2.1, b.2.2), (a.1, a.2.1, a.2.2)] : List Bundle), ([] : List Bundle), ([(a.1, a.2.1, a.2.2), (acc, ([] : List Bs), ([] : List (Bs × Bs)))] : List Bundle), ([(p0.1, p0.2.1, p0.2.2), (p0.1, p0.2.1, p0.2.2)] : List Bundle)] : List (List Bundle)), t.length ≤ 10 ∧ ∀ z ∈ t, Small 100 z := by
        have one : ∀ {x : Bundle} {r : List Bundle}, Small 100 x → (∀ z ∈ r, Small 100 z) → ∀ z ∈ x :: r, Small 100 z := fun h hr z hz => by
          rcases List.mem_cons.1 hz with rfl | hz
          · exact h
          · exact hr z hz
        have none : ∀ z ∈ ([] : List Bundle), Small 100 z := fun _ h => by cases h
        intro t ht
        simp only [List.mem_cons, List.not_mem_nil, or_false] at ht
        rcases ht with rfl | rfl | rfl | rfl | rfl
        · exact ⟨by simp, one hp (one hsa none)⟩
        · exact ⟨by simp, one hsa (one hsb (one hsa none))⟩
        · exact ⟨by simp, none⟩
        · exact ⟨by simp, one hsa (one hf none)⟩
        · exact ⟨by simp, one hp (one hp none)⟩
      generalize hl5 : ([([(p0.1, p0.2.1, p0.2.2), (a.1, a.2.1, a.2.2)] : List Bundle), ([(a.1, a.2.1, a.2.2), (b.1, b.2.1, b.2.2), (a.1, a.2.1, a.2.2)] : List Bundle), ([] : List Bundle), ([(a.1, a.2.1, a.2.2), (acc, ([] : List Bs), ([] : List (Bs × Bs)))] : List Bundle), ([(p0.1, p0.2.1, p0.2.2), (p0.1, p0.2.1, p0.2.2)] : List Bundle)] : List (List Bundle)) = l at hall ⊢
      have hlen : l.length = 5 := by rw [← hl5]; rfl
      clear hl5
      refine iterG_post (fun x => ∃ i : Nat, x = ((i : Int), l) ∧ i ≤ 5) (fun x => 5 - x.1.toNat) (fun o => o = some true) ?_ N _ ⟨0, rfl, by omega⟩ (by show 5 - 0 < N; omega)
      rintro x ⟨i, rfl, hi⟩ k hk
      dsimp only [U2]
      rw [bif_if]
      by_cases hi5 : i < 5
      · rw [if_pos (by omega), chk_if, if_pos (by omega), chk_if, if_pos (by omega), chk_if, if_pos (by rw [Int.toNat_natCast]; omega), Int.toNat_natCast]
        obtain ⟨h10, hs⟩ := hall _ (getD_mem ([] : List Bundle) (show i < l.length by omega))
        generalize l.getD i ([] : List Bundle) = t at h10 hs ⊢
        rw [Merge_eq N hN t (by omega) hs, callO_s, refMerge_eq N hN t (by omega) hs, callO_s]
        have hz := mergeP_len t h10 hs
        generalize mergeP t = z at hz ⊢
        rw [SameBundle_eq N z.1 (by omega) (by omega), show (z.2 != z.2) = false by simp, w64 (by omega) (by omega)]
        exact hk _ ⟨i + 1, by rw [show ((i + 1 : Nat) : Int) = (i : Int) + 1 by omega], by omega⟩ (by show 5 - ((i : Int) + 1).toNat < 5 - (i : Int).toNat; omega)
      · rw [if_neg (by omega), hN, awakeM_eq]; rfl
theorem merge_law2 (p0 : Bundle) (L : List Int) (hL : L.length ≤ 9223372036854775807) (x : Int) (hx : IntKind.u8.min ≤ x ∧ x ≤ IntKind.u8.max) : law20_BundleMerge 1048576 p0 L x = some true := by
  have h0 : IntKind.u8.min = 0 := rfl
  have h1 : IntKind.u8.max = 255 := rfl
  obtain ⟨n, rfl⟩ : ∃ n : Nat, x = (n : Int) := ⟨x.toNat, by omega⟩
  exact merge_law 1048576 rfl p0 L hL n (by omega)
end Go.Proofs.YtnllccjmbijjlaaGreat.Pl

/-
  A law's function that is known to the small machine: it answers true, and what was there is as it was.
-/
namespace Go.Proofs.YtnllccjmbijjlaaGreat.Vm
open Go.RowKit

theorem Moves.below {T : Nat → Prop} {w w' : World} (h : Moves (fun _ _ => none) T w w') : Below w.heap.size w w' :=
  ⟨h.os, h.tape, h.output, h.size, fun b hb => by
    rcases h.blk b hb with e | ⟨c, c', e, fr, _, _, _, _, k, o, _, ho, _⟩ | ⟨_, _, _, _, o, _, _, ho, _⟩
    · exact e
    · cases ho
    · cases ho⟩
theorem Sig.of_F {pars ress : List Sh} {f : ShT pars → Option (ShT (outS pars ress))} {xs : List A} {a : ShT pars} {o : ShT (outS pars ress)} (hd : decs pars xs = some a) (hf : f a = some o) : (Sig.of pars ress f).F xs = some (encs (outS pars ress) o) := by
  unfold Sig.F Sig.of
  dsimp only
  rw [hd]
  dsimp only
  rw [hf]
  rfl
theorem law_calls {P : Program} {f : FuncId} {sg : Sig} (h : Spec P f sg) {xs : List A} {vs : Array Value} {W : World} (hF : sg.F xs = some [.bool true]) (hress : sg.ress = [.cell false .bool]) (hv : vs.size = xs.length) (hl : xs.length = sg.pars.length) (h100 : xs.length ≤ 100)
    (hx : ∀ j, j < xs.length → IR (fun _ _ => none) W (256 * j) (vs.getD j undef) (xs.getD j .undef)) : Calls P f vs W fun e w' => e = .returned (.bool true) ∧ Below W.heap.size W w' := by
  refine (h.2 (fun _ _ => none) W vs xs _ hv hl h100 hx hF).mono fun e w' hq => ?_
  obtain ⟨v, O', he, hc⟩ := hq
  obtain ⟨us, h1, h2, h3⟩ := hc.res
  rw [hress] at h1
  have h1' : us.size = 1 := h1
  have h4 : VRel O' w' (us.getD 0 undef) (.bool true) := h3 0 (by omega)
  have h5 : us.getD 0 undef = .bool true := by
    generalize us.getD 0 undef = z at h4
    cases h4; rfl
  have h6 : v = .bool true := by
    rw [h2, dif_pos h1', ← h5]
    simp [Array.getD_eq_getD_getElem?, h1']
  exact ⟨by rw [he, h6], hc.moves.below⟩
end Go.Proofs.YtnllccjmbijjlaaGreat.Vm

/-
  Data that come in, as the small machine has them: numbers, strings, structs, slices of what holds no slices.
-/
namespace Go.Proofs.YtnllccjmbijjlaaGreat.Vm
open Go.ChangeShapes Go.WideShapes

def nobody : Own := fun _ _ => none
/-- what is known of the size of what comes in -/
def okA1 : A → Prop
  | .int k n => k.min ≤ n ∧ n ≤ k.max
  | .str s => s.length ≤ 9223372036854775807
  | _ => True
def okA : A → Prop
  | .sl l => l.xs.length ≤ 9223372036854775807 ∧ ∀ c ∈ l.es, ∀ a ∈ c, okA1 a
  | a => okA1 a
structure Opened (w : World) (ks : List CK) (cs : List Value) (aa : List A) : Prop where
  lc : cs.length = ks.length
  la : aa.length = ks.length
  rel : ∀ j, j < ks.length → VRel nobody w (cs.getD j undef) (aa.getD j .undef)
  made : ((tyl ks).mk aa).1 = true
  ok : ∀ a ∈ aa, okA a
/-- no slice among these -/
def flatA (aa : List A) : Prop := ∀ a ∈ aa, okA1 a
theorem mk_append : ∀ (a : List CK) {b : List CK} {x y : List A}, ((tyl a).mk x).1 = true → ((tyl b).mk y).1 = true → ((tyl (a ++ b)).mk (x ++ y)).1 = true := by
  intro a
  induction a with
  | nil =>
    intro b x y hx hy
    cases x with
    | nil => exact hy
    | cons _ _ => cases hx
  | cons k a ih =>
    intro b x y hx hy
    cases k with
    | bool =>
      cases x with
      | nil => cases hx
      | cons c x => cases c <;> first | exact ih (x := x) hx hy | cases hx
    | int k =>
      cases x with
      | nil => cases hx
      | cons c x =>
        cases c <;> first
          | (simp only [tyl, Ty.mk, Bool.and_eq_true] at hx
             simp only [List.cons_append, tyl, Ty.mk, Bool.and_eq_true]
             exact ⟨hx.1, ih hx.2 hy⟩)
          | cases hx
    | str =>
      cases x with
      | nil => cases hx
      | cons c x => cases c <;> first | exact ih (x := x) hx hy | cases hx
    | sl e t =>
      cases x with
      | nil => cases hx
      | cons c x =>
        cases c with
        | sl l =>
          simp only [tyl, Ty.mk] at hx
          simp only [List.cons_append, tyl, Ty.mk]
          cases hc : l.cast t with
          | none => rw [hc] at hx; cases hx
          | some xs => rw [hc] at hx; exact ih (x := x) hx hy
        | _ => cases hx
    | ptr =>
      cases x with
      | nil => cases hx
      | cons c x => cases c <;> first | exact ih (x := x) hx hy | cases hx
    | fn =>
      cases x with
      | nil => cases hx
      | cons c x => cases c <;> first | exact ih (x := x) hx hy | cases hx
    | mp kt vt =>
      cases x with
      | nil => cases hx
      | cons c x =>
        cases c with
        | ump l =>
          simp only [tyl, Ty.mk] at hx
          simp only [List.cons_append, tyl, Ty.mk]
          cases hc : l.cast kt vt with
          | none => rw [hc] at hx; cases hx
          | some xs => rw [hc] at hx; exact ih (x := x) hx hy
        | _ => cases hx
    | oth =>
      cases x with
      | nil => cases hx
      | cons c x => cases c <;> first | exact ih (x := x) hx hy | cases hx
theorem Opened.nil {w : World} : Opened w [] [] [] := ⟨rfl, rfl, fun j hj => absurd hj (Nat.not_lt_zero j), rfl, fun a ha => (by cases ha)⟩
theorem Opened.append {w : World} {a b : List CK} {x y : List Value} {p q : List A} (h1 : Opened w a x p) (h2 : Opened w b y q) : Opened w (a ++ b) (x ++ y) (p ++ q) := by
  refine ⟨by simp [h1.lc, h2.lc], by simp [h1.la, h2.la], fun j hj => ?_, mk_append a h1.made h2.made, fun z hz => ?_⟩
  · rw [List.length_append] at hj
    by_cases h : j < a.length
    · have := h1.rel j h
      rw [List.getD_eq_getElem?_getD, List.getElem?_append_left (by rw [h1.lc]; exact h), ← List.getD_eq_getElem?_getD, List.getD_eq_getElem?_getD (l := p ++ q), List.getElem?_append_left (by rw [h1.la]; exact h), ← List.getD_eq_getElem?_getD]
      exact this
    · have := h2.rel (j - a.length) (by omega)
      rw [List.getD_eq_getElem?_getD, List.getElem?_append_right (by rw [h1.lc]; omega), ← List.getD_eq_getElem?_getD, List.getD_eq_getElem?_getD (l := p ++ q), List.getElem?_append_right (by rw [h1.la]; omega), ← List.getD_eq_getElem?_getD, h1.lc, h1.la]
      exact this
  · rcases List.mem_append.1 hz with hz | hz
    · exact h1.ok z hz
    · exact h2.ok z hz
theorem Opened.one {w : World} {k : CK} {v : Value} {a : A} (hr : VRel nobody w v a) (hm : ((tyl [k]).mk [a]).1 = true) (ho : okA a) : Opened w [k] [v] [a] :=
  ⟨rfl, rfl, fun j hj => by
    have : j = 0 := by simp at hj; omega
    subst this; exact hr, hm, fun z hz => by rw [List.mem_singleton.1 hz]; exact ho⟩
/-- can data of this type be opened? s: are slices let? -/
def ckLen (P : Program) (n t : Nat) : Nat := match ckOf P n t with | some cs => cs.length | none => 0
def offsOk (P : Program) (n : Nat) : List Field → Nat → Bool
  | [], _ => true
  | f :: r, o => Nat.beq f.offset o && Nat.beq (P.cellsOf f.type) (ckLen P n f.type) && offsOk P n r (o + ckLen P n f.type)
def openOk (P : Program) : Nat → Bool → Nat → Bool
  | 0, _, _ => false
  | n + 1, s, t => match P.underlying t with
    | some .bool => true
    | some (.int _) => true
    | some .string => true
    | some (.slice e) => s && openOk P n false e && Nat.beq (P.cellsOf e) (ckLen P n e) && Nat.blt 0 (ckLen P n e) && (match ckOf P n e with | some cs => cs.all CK.plain | none => false)
    | some (.struct fs) => Nat.beq (P.cellsOf t) (ckLen P (n + 1) t) && offsOk P n fs.toList 0 && fs.toList.all (fun f => openOk P n s f.type)
    | _ => false
def isSliceV : Value → Bool | .slice (some a) _ _ => a.spot.isNone | _ => true
section
variable {H : Type} {enc : TypeId × Value → H} {P : Program} {w : World} {base : Nat} {spare : Nat → Bool} {held : Bool}
theorem cells_are {a : Addr} {n : Nat} {cs : List Value} (h : w.cells? base a n = some cs) : cs.length = n ∧ ∀ j, j < n → w.cell? (a.add j) = some (cs.getD j undef) := by
  unfold World.cells? at h
  split at h
  · have key : ∀ (l : List Nat) (cs : List Value), l.mapM (fun i => w.cell? (a.add i)) = some cs → cs.length = l.length ∧ ∀ j (hj : j < l.length), w.cell? (a.add l[j]) = some (cs.getD j undef) := by
      intro l
      induction l with
      | nil =>
        intro cs h
        simp at h
        subst h
        exact ⟨rfl, fun j hj => by cases hj⟩
      | cons i l ih =>
        intro cs h
        rw [List.mapM_cons] at h
        cases h1 : w.cell? (a.add i) with
        | none => rw [h1] at h; cases h
        | some v =>
          rw [h1] at h
          cases h2 : l.mapM (fun i => w.cell? (a.add i)) with
          | none => rw [h2] at h; cases h
          | some r =>
            rw [h2] at h
            injection h with h
            subst h
            obtain ⟨k1, k2⟩ := ih r h2
            refine ⟨by simp [k1], fun j hj => ?_⟩
            cases j with
            | zero => exact h1
            | succ j => exact k2 j (by simpa using hj)
    obtain ⟨h1, h2⟩ := key _ _ h
    rw [List.length_range] at h1
    refine ⟨h1, fun j hj => ?_⟩
    have := h2 j (by rw [List.length_range]; exact hj)
    rw [List.getElem_range] at this
    exact this
  · cases h
theorem mem_take_drop {α : Type} {l : List α} {a b : Nat} {v : α} (h : v ∈ (l.drop a).take b) : v ∈ l := List.mem_of_mem_drop (List.mem_of_mem_take h)
theorem sum_take {l : List Value} {o a b : Nat} : (l.drop o).take (a + b) = (l.drop o).take a ++ (l.drop (o + a)).take b := by
  rw [List.take_add, List.drop_drop]
theorem slice_made (e : Nat) (t : Ty) (xs : List t.Val) : ((tyl [.sl e t]).mk [.sl ⟨t, xs⟩]).1 = true := by
  simp only [tyl, Ty.mk]
  rw [Sl.cast_self]
  rfl
theorem trod_opened : ∀ (n : Nat) (s : Bool) (t : TypeId) (ks : List CK) (fuel : Nat) (cs : List Value) (x : DataW H × List MemPlace), ckOf P n t = some ks → openOk P n s t = true → (s = true → ∀ v ∈ cs, isSliceV v = true) → DataW.trod enc P w base spare held fuel t cs = some x →
    ∃ aa, Opened w ks cs aa ∧ (s = false → ∀ a ∈ aa, okA1 a) := by
  intro n
  induction n with
  | zero => intro s t ks fuel cs x h; cases h
  | succ n ih =>
    intro s t ks fuel cs x hck hok hsp h
    unfold ckOf at hck
    unfold openOk at hok
    cases hu : P.underlying t with
    | none => rw [hu] at hck; cases hck
    | some d =>
      rw [hu] at hck hok
      cases d with
      | bool =>
        injection hck with hck
        subst hck
        obtain ⟨b, rfl, _⟩ := DataW.trod_bool hu h
        exact ⟨[.bool b], Opened.one (.bool b) rfl trivial, fun _ a ha => by rw [List.mem_singleton.1 ha]; trivial⟩
      | int k =>
        injection hck with hck
        subst hck
        obtain ⟨v, rfl, _, hw⟩ := DataW.trod_int hu h
        have hk : okA1 (.int k v) := by
          unfold Lit.wf at hw
          rw [Bool.and_eq_true, decide_eq_true_eq, decide_eq_true_eq] at hw
          exact hw
        exact ⟨[.int k v], Opened.one (.int k v) (by cases k <;> rfl) hk, fun _ a ha => by rw [List.mem_singleton.1 ha]; exact hk⟩
      | string =>
        injection hck with hck
        subst hck
        obtain ⟨v, rfl, _, hw⟩ := DataW.trod_string hu h
        have hk : okA1 (.str v.data.toList) := by
          show v.data.toList.length ≤ _
          have e : v.data.toList.length = v.size := by rw [Array.length_toList]; rfl
          have : maxLen = 9223372036854775807 := rfl
          omega
        exact ⟨[.str v.data.toList], Opened.one (.str v) rfl hk, fun _ a ha => by rw [List.mem_singleton.1 ha]; exact hk⟩
      | slice e =>
        dsimp only at hck hok
        simp only [Bool.and_eq_true] at hok
        obtain ⟨⟨⟨⟨hs, hoe⟩, hce⟩, hc0⟩, hpl⟩ := hok
        subst hs
        cases hke : ckOf P n e with
        | none => rw [hke] at hpl; cases hpl
        | some ke =>
          rw [hke] at hck hpl
          dsimp only at hck hpl
          rw [hpl] at hck
          injection hck with hck
          subst hck
          have hlen : P.cellsOf e = ke.length := by
            have := Nat.eq_of_beq_eq_true hce
            unfold ckLen at this
            rw [hke] at this; exact this
          rcases DataW.trod_slice hu h with ⟨rfl, _⟩ | ⟨a, len, cap, elems, rest, m, _, rfl, _, hb, hl, hm, hel, hels, _, _⟩
          · exact ⟨[.sl ⟨tyl ke, []⟩], Opened.one (.nil _) (slice_made _ _ _) ⟨Nat.zero_le _, fun c hc => (by cases hc)⟩, fun h => (by cases h)⟩
          · have hspot : a.spot = none := by
              have := hsp rfl _ List.mem_cons_self
              exact Option.isNone_iff_eq_none.1 this
            have ha : a = at' a.block a.off := by
              obtain ⟨b, o, sp⟩ := a
              dsimp only at hspot
              rw [hspot]
            have each : ∀ i, ∃ (q : List Value) (aa : List A), i < len → (∀ j, j < ke.length → w.cell? (at' a.block (a.off + (i * ke.length + j))) = some (q.getD j undef)) ∧ Opened w ke q aa ∧ ∀ z ∈ aa, okA1 z := by
              intro i
              by_cases hi : i < len
              · have he := hels i hi
                have hei : elems[i]? = some (elems[i]'(by omega)) := List.getElem?_eq_getElem (by omega)
                rw [hei, Option.bind_eq_some_iff] at he
                obtain ⟨q, hq, hq2⟩ := he
                obtain ⟨k1, k2⟩ := cells_are hq
                rw [hlen] at k1 k2
                obtain ⟨aa, h1, h2⟩ := ih false e ke m q _ hke hoe (fun h => (by cases h)) hq2
                refine ⟨q, aa, fun _ => ⟨fun j hj => ?_, h1, h2 rfl⟩⟩
                have := k2 j hj
                rw [ha, add_at, add_at] at this
                rw [← this]; congr 2; omega
              · exact ⟨[], [], fun h => absurd h hi⟩
            obtain ⟨q, hq⟩ := Classical.axiomOfChoice each
            obtain ⟨aa, haa⟩ := Classical.axiomOfChoice hq
            let l : Sl := ⟨tyl ke, (List.range len).map fun i => ((tyl ke).mk (aa i)).2⟩
            have hes : l.es = (List.range len).map aa := by
              show ((List.range len).map fun i => ((tyl ke).mk (aa i)).2).map (tyl ke).cells = _
              rw [List.map_map]
              refine List.map_congr_left fun i hi => ?_
              exact Ty.mk_cells _ _ (haa i (List.mem_range.1 hi)).2.1.made
            have hesl : l.es.length = len := by rw [hes, List.length_map, List.length_range]
            have hsz : l.sz = ke.length := tyl_len ke
            have hget : ∀ i, i < len → l.es.getD i [] = aa i := fun i hi => by
              rw [hes, List.getD_eq_getElem?_getD, List.getElem?_map, List.getElem?_range hi]; rfl
            have hrel : VRel nobody w (.slice (some a) len cap) (.sl l) := by
              rw [ha, ← hesl]
              refine VRel.sl (fun i j => (q i).getD j undef) (by rw [hesl]; exact hl) (fun i j hi hj => ?_) (fun i j hi hj => ?_)
              · rw [hsz] at hj ⊢
                exact ⟨rfl, (haa i (by rw [← hesl]; exact hi)).1 j hj⟩
              · rw [hsz] at hj
                have hi' : i < len := by rw [← hesl]; exact hi
                rw [hget i hi']
                exact (haa i hi').2.1.rel j hj
            refine ⟨[.sl l], Opened.one hrel (slice_made _ _ _) ⟨?_, fun c hc z hz => ?_⟩, fun h => (by cases h)⟩
            · show ((List.range len).map _).length ≤ _
              rw [List.length_map, List.length_range]
              have : maxLen = 9223372036854775807 := rfl
              omega
            · rw [hes] at hc
              obtain ⟨i, hi, rfl⟩ := List.mem_map.1 hc
              exact (haa i (List.mem_range.1 hi)).2.2 z hz
      | struct fs =>
        dsimp only at hck hok
        simp only [Bool.and_eq_true] at hok
        obtain ⟨⟨hcl, hoff⟩, hall⟩ := hok
        obtain ⟨xs, m, _, _, hl, hxl, hxs⟩ := DataW.trod_struct hu h
        have fields : ∀ (l : List Field) (o : Nat) (ks : List CK), l.foldr (fun f acc => match ckOf P n f.type, acc with | some a, some b => some (a ++ b) | _, _ => none) (some []) = some ks → offsOk P n l o = true → (∀ f ∈ l, openOk P n s f.type = true) →
            (∀ f ∈ l, ∃ y, DataW.trod enc P w base spare held m f.type ((cs.drop f.offset).take (P.cellsOf f.type)) = some y) → ∃ aa, Opened w ks ((cs.drop o).take ks.length) aa ∧ (s = false → ∀ a ∈ aa, okA1 a) := by
          intro l
          induction l with
          | nil =>
            intro o ks hk _ _ _
            injection hk with hk
            subst hk
            exact ⟨[], Opened.nil, fun _ a ha => (by cases ha)⟩
          | cons f r ihr =>
            intro o ks hk ho hf hy
            rw [List.foldr_cons] at hk
            cases ha : ckOf P n f.type with
            | none => rw [ha] at hk; cases hk
            | some a =>
              rw [ha] at hk
              cases hb : r.foldr (fun f acc => match ckOf P n f.type, acc with | some a, some b => some (a ++ b) | _, _ => none) (some []) with
              | none => rw [hb] at hk; cases hk
              | some b =>
                rw [hb] at hk
                injection hk with hk
                subst hk
                have hal : ckLen P n f.type = a.length := by unfold ckLen; rw [ha]
                unfold offsOk at ho
                simp only [Bool.and_eq_true] at ho
                obtain ⟨⟨h1, h2⟩, h3⟩ := ho
                have h1 := Nat.eq_of_beq_eq_true h1
                have h2 := Nat.eq_of_beq_eq_true h2
                rw [hal] at h2 h3
                obtain ⟨y, hy1⟩ := hy f List.mem_cons_self
                rw [h1, h2] at hy1
                obtain ⟨pa, p1, p2⟩ := ih s f.type a m _ y ha (hf f List.mem_cons_self) (fun hs v hv => hsp hs v (mem_take_drop hv)) hy1
                obtain ⟨pb, q1, q2⟩ := ihr (o + a.length) b hb h3 (fun g hg => hf g (List.mem_cons_of_mem _ hg)) (fun g hg => hy g (List.mem_cons_of_mem _ hg))
                refine ⟨pa ++ pb, ?_, fun hs z hz => ?_⟩
                · rw [List.length_append, sum_take]
                  exact p1.append q1
                · rcases List.mem_append.1 hz with hz | hz
                  · exact p2 hs z hz
                  · exact q2 hs z hz
        obtain ⟨aa, h1, h2⟩ := fields fs.toList 0 ks hck hoff (fun f hf => List.all_eq_true.1 hall f hf) (fun f hf => by
          obtain ⟨i, hi⟩ := List.getElem?_of_mem hf
          have hi' : fs[i]? = some f := by rw [← Array.getElem?_toList]; exact hi
          have := hxs i f hi'
          have hlt : i < xs.length := by
            rw [hxl]
            exact (Array.getElem?_eq_some_iff.1 hi').1
          rw [List.getElem?_eq_getElem hlt] at this
          exact ⟨_, this⟩)
        have hcs : (cs.drop 0).take ks.length = cs := by
          rw [List.drop_zero]
          refine List.take_of_length_le ?_
          have h3 := Nat.eq_of_beq_eq_true hcl
          have h4 : ckLen P (n + 1) t = ks.length := by
            unfold ckLen ckOf
            rw [hu]
            dsimp only
            rw [hck]
          omega
        rw [hcs] at h1
        exact ⟨aa, h1, h2⟩
      | _ => cases hok
/-! ### parameters -/
theorem cell_spot {r : Reach} {b0 : Nat} {u : TypeId} {v : Value} (h : Cell.okWide P w r b0 u v) : isSliceV v = true := by
  cases v with
  | slice a len cap =>
    cases a with
    | none => rfl
    | some a =>
      have h' : Cell.ok P w r b0 u (.slice (some a) len cap) := by
        unfold Cell.okWide at h
        split at h <;> first | exact h | (rename_i hh; cases hh)
      unfold Cell.ok at h'
      split at h' <;> first
        | (rename_i hh; cases hh; done)
        | (rename_i e a' len' cap' _ hh
           injection hh with h1 h2 h3
           injection h1 with h1
           subst h1
           show a.spot.isNone = true
           rw [h'.2.2.2.1]; rfl)
        | exact h'.elim
  | _ => rfl
theorem cell_noAgg {r : Reach} {b0 : Nat} {u : TypeId} {cs : Array Value} (h : Cell.okWide P w r b0 u (.agg cs)) : False := by
  have h' : Cell.ok P w r b0 u (.agg cs) := by
    unfold Cell.okWide at h
    split at h <;> first | exact h | (rename_i hh; cases hh)
  unfold Cell.ok at h'
  split at h' <;> first | (rename_i hh; cases hh; done) | exact h'
def aggT (P : Program) (t : TypeId) : Bool := match P.underlying t with
  | some (.struct _) => true
  | some (.array _ _) => true
  | _ => false
theorem open_cell {r : Reach} {b0 n : Nat} {t : TypeId} {v : Value} {d : DataW H} {ps : List MemPlace} {k : CK} (hck : ckOf P n t = some [k]) (hok : openOk P n true t = true) (ha : aggT P t = false) (hval : Value.okWide P w r b0 t v) (hd : DataW.Trod enc P w base spare held t v d ps) :
    ∃ a, VRel nobody w v a ∧ ((tyl [k]).mk [a]).1 = true ∧ okA a := by
  have hc : Cell.okWide P w r b0 t v := by
    unfold Value.okWide at hval
    unfold aggT at ha
    split at hval <;> first | exact hval | (rename_i hh; rw [hh] at ha; cases ha)
  have hcells : v.cells.toList = [v] := by
    cases v with
    | agg cs => exact (cell_noAgg hc).elim
    | _ => rfl
  obtain ⟨fuel, h⟩ := hd
  rw [hcells] at h
  obtain ⟨aa, h1, _⟩ := trod_opened n true t [k] fuel [v] _ hck hok (fun _ u hu => by rw [List.mem_singleton.1 hu]; exact cell_spot hc) h
  obtain ⟨a, rfl⟩ : ∃ a, aa = [a] := List.length_eq_one_iff.1 h1.la
  exact ⟨a, h1.rel 0 (by show 0 < 1; omega), h1.made, h1.ok a List.mem_cons_self⟩
theorem open_agg {r : Reach} {b0 n : Nat} {t : TypeId} {v : Value} {d : DataW H} {ps : List MemPlace} {ks : List CK} (hck : ckOf P n t = some ks) (hok : openOk P n true t = true) (ha : aggT P t = true) (hval : Value.okWide P w r b0 t v) (hd : DataW.Trod enc P w base spare held t v d ps) :
    ∃ (cs : Array Value) (aa : List A), v = .agg cs ∧ Opened w ks cs.toList aa := by
  have hc : ∃ cs, v = .agg cs ∧ cs.size = P.cellsOf t ∧ Row.okWide P w r b0 t cs := by
    unfold Value.okWide at hval
    unfold aggT at ha
    split at hval <;> first | exact hval | (split at ha <;> simp_all)
  obtain ⟨cs, rfl, _, ts, _, _, hrow⟩ := hc
  obtain ⟨fuel, h⟩ := hd
  obtain ⟨aa, h1, _⟩ := trod_opened n true t ks fuel cs.toList _ hck hok (fun _ u hu => by
    obtain ⟨i, hi⟩ := List.getElem?_of_mem hu
    obtain ⟨q, _, hq⟩ := hrow i u (by rw [← Array.getElem?_toList]; exact hi)
    exact cell_spot hq) h
  exact ⟨cs, aa, rfl, h1⟩
/-- what a struct is between calls -/
theorem Opened.ir {ks : List CK} {cs : Array Value} {aa : List A} (h : Opened w ks cs.toList aa) (id : Nat) : IR nobody w id (.agg cs) (.agg aa) := by
  refine ⟨cs, rfl, ?_, fun j hj => VRel.ic ?_⟩
  · rw [← Array.length_toList, h.lc, h.la]
  · have := h.rel j (by rw [← h.la]; exact hj)
    rw [List.getD_eq_getElem?_getD, Array.getElem?_toList, ← Array.getD_eq_getD_getElem?] at this
    exact this
theorem VRel.ir {id : Nat} {v : Value} {a : A} (h : VRel nobody w v a) : IR nobody w id v a := by
  have := h.ic (id := id)
  cases h <;> exact this
end
end Go.Proofs.YtnllccjmbijjlaaGreat.Vm

/-
  BundleMerge: WHATEVER THE INPUT, the law returns true, and each argument reads as it read before. Conditions: none.
-/
namespace Go.Proofs.YtnllccjmbijjlaaGreat.bundleMerge
open Go.ChangeShapes Go.WideShapes Go.ChangeAt Go.RowKit
open Go.Proofs.YtnllccjmbijjlaaGreat.Vm
set_option linter.unusedVariables false

theorem own : ownKnob Tryz.prog.godebug = none := by kernel_rfl
theorem laidOut : laidOutB Tryz.prog = true := by kernel_rfl

set_option maxRecDepth 100000 in
theorem lifted (os : Os) (started : os.Started) (H : Type) (enc : TypeId × Value → H) :
    ReturnsInHanded {} Tryz.checked os 3 .any (Rows.bundleMergeSpec.pre6 enc Tryz.prog Tryz.f3 Rows.bundleMergeRow.domain false) (Rows.bundleMergeSpec.post enc Tryz.prog Tryz.f3 false true false false) := by
  refine returnsInHanded_of_change (C := Tryz.checked) own started (by kernel_rfl) Tryz.func3
    (ChangeSpec.witness6 (enc := enc) (C := Tryz.checked) false ⟨#[], #[.agg #[.slice none 0 0, .slice none 0 0, .slice none 0 0], .slice none 0 0, .int .u8 0], []⟩ 8 (by kernel_rfl) (by kernel_rfl) (by kernel_rfl) (by kernel_rfl)) ?_
  intro W base args ds gs before hval0 hW hcnd _
  have hval : ∀ (j : Nat) t v, Tryz.f3.params[j]? = some t → args[j]? = some v → Value.okWide Tryz.prog W .any base t v := hval0
  have hW' := hW
  obtain ⟨p, q, hA0, hV, rfl, hfz, hnd⟩ := hW
  have hA : DataW.TrodAll enc Tryz.prog W 0 (fun _ => true) true Tryz.f3.params.toList args.toList ds p := hA0
  rw [Tryz.params3] at hA hval
  obtain ⟨v0, vs0, d0, ds0, p0, q0, hargs, rfl, rfl, h0, r0⟩ := trodAll_cons hA
  obtain ⟨v1, vs1, d1, ds1, p1, q1, rfl, rfl, rfl, h1, r1⟩ := trodAll_cons r0
  obtain ⟨v2, vs2, d2, ds2, p2, q2, rfl, rfl, rfl, h2, r2⟩ := trodAll_cons r1
  obtain ⟨rfl, rfl, rfl⟩ := trodAll_nil r2
  obtain rfl : args = #[v0, v1, v2] := by cases args; simp_all
  obtain ⟨rfl, rfl⟩ := trodVars_none hV
  have hlt0 : ∀ x ∈ p0, x.block < W.heap.size := fun x hx => by have := hW'.lt x (by simp [hx]); simpa using this
  have hk0 := h0
  obtain ⟨c0, aa0, rfl, op0⟩ := open_agg (n := 20) (t := 25) (ks := [(.sl 9 (.str .nil)), (.sl 9 (.str .nil)), (.sl 41 (.str (.str .nil)))]) (by kernel_rfl) (by kernel_rfl) (by kernel_rfl) (hval 0 25 v0 rfl rfl) h0
  obtain ⟨x0, rfl⟩ : ∃ x : List Bs × List Bs × List (Bs × Bs), aa0 = [.sl ⟨(.str .nil), x.1⟩, .sl ⟨(.str .nil), x.2.1⟩, .sl ⟨(.str (.str .nil)), x.2.2⟩] := ⟨((tyl [(.sl 9 (.str .nil)), (.sl 9 (.str .nil)), (.sl 41 (.str (.str .nil)))]).mk aa0).2, (Ty.mk_cells _ _ op0.made).symm⟩
  have hlt1 : ∀ x ∈ p1, x.block < W.heap.size := fun x hx => by have := hW'.lt x (by simp [hx]); simpa using this
  have hk1 := h1
  obtain ⟨a1, re1, ma1, b1⟩ := open_cell (n := 20) (t := 26) (k := (.sl 3 (.int .i64 .nil))) (by kernel_rfl) (by kernel_rfl) (by kernel_rfl) (hval 1 26 v1 rfl rfl) h1
  obtain ⟨x1, rfl⟩ : ∃ x : List Int, a1 = .sl ⟨(.int .i64 .nil), x⟩ := ⟨((tyl [(.sl 3 (.int .i64 .nil))]).mk [a1]).2, (List.cons.inj (Ty.mk_cells _ _ ma1)).1.symm⟩
  have hlt2 : ∀ x ∈ p2, x.block < W.heap.size := fun x hx => by have := hW'.lt x (by simp [hx]); simpa using this
  have hk2 := h2
  obtain ⟨a2, re2, ma2, b2⟩ := open_cell (n := 20) (t := 5) (k := (.int .u8)) (by kernel_rfl) (by kernel_rfl) (by kernel_rfl) (hval 2 5 v2 rfl rfl) h2
  obtain ⟨x2, rfl⟩ : ∃ x : Int, a2 = .int .u8 x := ⟨((tyl [(.int .u8)]).mk [a2]).2, (List.cons.inj (Ty.mk_cells _ _ ma2)).1.symm⟩
  clear hA0 hval0
  simp only [List.append_nil] at hW'
  have hF : (Sig.of [.agg [(false, (.sl 9 (.str .nil))), (false, (.sl 9 (.str .nil))), (false, (.sl 41 (.str (.str .nil))))], .cell false (.sl 3 (.int .i64 .nil)), .cell false (.int .u8)] [.cell false .bool] (fun a => law20_BundleMerge 1048576 a.1 a.2.1 a.2.2)).F [.agg [.sl ⟨(.str .nil), x0.1⟩, .sl ⟨(.str .nil), x0.2.1⟩, .sl ⟨(.str (.str .nil)), x0.2.2⟩], .sl ⟨(.int .i64 .nil), x1⟩, .int .u8 x2] = some [.bool true] :=
    Sig.of_F (pars := [.agg [(false, (.sl 9 (.str .nil))), (false, (.sl 9 (.str .nil))), (false, (.sl 41 (.str (.str .nil))))], .cell false (.sl 3 (.int .i64 .nil)), .cell false (.int .u8)]) (ress := [.cell false .bool]) (f := fun a => law20_BundleMerge 1048576 a.1 a.2.1 a.2.2) (a := (x0, x1, x2)) (o := true) rfl (Pl.merge_law2 x0 x1 b1.1 x2 b2)
  refine (law_calls (law20_BundleMerge_spec 1048576) (xs := [.agg [.sl ⟨(.str .nil), x0.1⟩, .sl ⟨(.str .nil), x0.2.1⟩, .sl ⟨(.str (.str .nil)), x0.2.2⟩], .sl ⟨(.int .i64 .nil), x1⟩, .int .u8 x2]) hF rfl rfl rfl (by show 3 ≤ 100; omega) (fun j hj => ?_)).mono fun e W' ⟨he, bel⟩ => ?_
  · have hj' : j < 3 := hj
    have : j = 0 ∨ j = 1 ∨ j = 2 := by omega
    rcases this with rfl | rfl | rfl
    · exact op0.ir _
    · exact re1.ir
    · exact re2.ir
  subst he
  exact ⟨_, rfl, _, _, _, [], _, [], hW', trodAll_mk1 (shut_bool Tryz.underlying4 _), (trodAll_cons_mk (Below.trod laidOut (by kernel_rfl) (of_decide_eq_true (by kernel_rfl)) hk0 bel hlt0) (trodAll_cons_mk (Below.trod laidOut (by kernel_rfl) (of_decide_eq_true (by kernel_rfl)) hk1 bel hlt1) (trodAll_cons_mk (Below.trod laidOut (by kernel_rfl) (of_decide_eq_true (by kernel_rfl)) hk2 bel hlt2) trodAll_mk0))), rfl, bel.frame _, fun h => by cases h⟩

theorem over : Rows.bundleMergeRow.holds Tryz.pinned (OpenSpec.ofChange Rows.bundleMergeSpec) :=
  OpenClaim.holds_of_wide 3 Tryz.f3 rfl rfl rfl rfl rfl rfl rfl ⟨rfl, rfl, rfl, rfl, rfl⟩ rfl rfl rfl rfl rfl (by kernel_rfl) Tryz.func3 (by kernel_rfl)
    (of_decide_eq_true (by kernel_rfl)) (by unfold Func.isWrapper; first | (rw [if_pos (by decide +kernel)]; kernel_rfl) | (rw [if_neg (by decide +kernel)]; exact ⟨rfl, rfl⟩))
    (fun os started H enc _ => lifted os started H enc)

/-- THE STATEMENT -/
theorem proved : Rows.BundleMergeSaid := over
#print axioms proved
end Go.Proofs.YtnllccjmbijjlaaGreat.bundleMerge
