/-
  BundleDecode: whatever the input, the law returns true, and each argument reads as it read before. Conditions: none. (part 5 of 6.)
-/
import Derived.Test.YtegnjlmdppobmaaGreatA4
import Derived.RowKit
import Derived.KernelRfl
import Derived.Below
set_option linter.unusedVariables false
set_option linter.unusedSimpArgs false
/-
  The functions of the program compute what is printed of them.
-/
namespace Go.Proofs.YtegnjlmdppobmaaGreat.Vm
open Go.Proofs
def bundle_checkPair_ns : List (Nat × Nrm) := [(3, ⟨[], [], [], [], []⟩), (18, ⟨[18, 19, 20], [], [], [], []⟩)]
def bundle_checkPair_L : Lk := ⟨[], [(18, ⟨[(18, .c (xo 37376)), (19, .i), (20, .c x64)], [(37376, .arr 9 false (.str .nil))]⟩, [(0, ⟨[], []⟩)])]⟩
noncomputable def bundle_checkPair_S (N : Nat) : Sig := .of [Sq1] [.cell false (.int .i64)] (fun a => bundle_checkPair N a)
theorem bundle_checkPair_spec (N : Nat) : Spec Tryz.prog 30 (bundle_checkPair_S N) := spec_of_exe (C := ctx Tryz.prog [(29, bundle_checkOne_S N)] bundle_checkPair_ns) (L := bundle_checkPair_L) (fn := Tryz.f30) (N := N) (ctx_ok ⟨bundle_checkOne_spec N, trivial⟩) (by kernel_rfl) (by kernel_rfl) (fun a => by kernel_rfl)

noncomputable def bundle_decodePair_S (N : Nat) : Sig := .of [.cell false .str] [Sq1, .cell false (.int .i64)] (fun a => bundle_decodePair N a)
theorem bundle_decodePair_spec (N : Nat) : Spec Tryz.prog 38 (bundle_decodePair_S N) := spec_of_exe (C := ctx Tryz.prog [(62, bundle_decodeHalf_S N), (39, der_Reader_Done_S N)] [] [(36, der_Open_A N)]) (L := ⟨[], []⟩) (fn := Tryz.f38) (N := N) (ctx_ok ⟨bundle_decodeHalf_spec N, der_Reader_Done_spec N, trivial⟩ ⟨der_Open_alt N, trivial⟩) (by kernel_rfl) (by kernel_rfl) (fun a => by kernel_rfl)

def ref07_CheckGeneral_ns : List (Nat × Nrm) := [(53, ⟨[2, 5], [], [], [], []⟩)]
def ref07_CheckGeneral_L : Lk := ⟨[(53, ⟨[(2, .c (.c (.ptr 33280 0))), (5, .c xb)], [(33280, .box [x64, xs, (xl (.sl 159 Tq1 .nil))])]⟩)], []⟩
noncomputable def ref07_CheckGeneral_S (N : Nat) : Sig := .of [Sq9, .cell false .bool] [.cell false (.int .i64)] (fun a => ref07_CheckGeneral N a.1 a.2)
theorem ref07_CheckGeneral_spec (N : Nat) : Spec Tryz.prog 157 (ref07_CheckGeneral_S N) := spec_of_exe (C := ctx Tryz.prog [(169, ref07_MailBase_S N), (170, ref07_Mail_S N), (171, ref07_Base_S N), (172, ref07_Pattern_S N), (173, ref07_Range_S N), (174, ref07_Address_S N), (103, ref07_CheckName_S N)] ref07_CheckGeneral_ns) (L := ref07_CheckGeneral_L) (fn := Tryz.f157) (N := N) (ctx_ok ⟨ref07_MailBase_spec N, ref07_Mail_spec N, ref07_Base_spec N, ref07_Pattern_spec N, ref07_Range_spec N, ref07_Address_spec N, ref07_CheckName_spec N, trivial⟩) (by kernel_rfl) (by kernel_rfl) (fun a => by kernel_rfl)

def ref07_WithinName_ns : List (Nat × Nrm) := [(3, ⟨[], [], [], [], []⟩), (18, ⟨[2, 3, 15, 16], [], [], [], []⟩)]
def ref07_WithinName_L : Lk := ⟨[], [(18, ⟨[(2, .c (.c (.ptr 33280 0))), (3, .c (.c (.ptr 33536 0))), (15, .i), (16, .c x64)], [(33280, .box [(xl (.sl 159 Tq1 .nil))]), (33536, .box [(xl (.sl 159 Tq1 .nil))])]⟩, [(0, ⟨[], []⟩)])]⟩
noncomputable def ref07_WithinName_S (N : Nat) : Sig := .of [Sq7, Sq7] [.cell false .bool] (fun a => ref07_WithinName N a.1 a.2)
theorem ref07_WithinName_spec (N : Nat) : Spec Tryz.prog 119 (ref07_WithinName_S N) := spec_of_exe (C := ctx Tryz.prog [(142, ref07_matchRDN_S N)] ref07_WithinName_ns) (L := ref07_WithinName_L) (fn := Tryz.f119) (N := N) (ctx_ok ⟨ref07_matchRDN_spec N, trivial⟩) (by kernel_rfl) (by kernel_rfl) (fun a => by kernel_rfl)

def ref14_EncodeExtensions_ns : List (Nat × Nrm) := [(3, ⟨[5], [], [], [], []⟩), (26, ⟨[5, 17, 18, 19], [], [], [], []⟩), (45, ⟨[5, 7, 8, 17, 18, 19], [], [], [], []⟩)]
def ref14_EncodeExtensions_L : Lk := ⟨[(45, ⟨[(5, .i), (7, .c (.c (.ptr 34560 0))), (8, .c xs), (17, .i), (18, .i), (19, .i)], [(34560, .box [xs, xb, xs])]⟩)], [(26, ⟨[(5, .c xs), (17, .i), (18, .i), (19, .c x64)], []⟩, [(0, ⟨[(5, .c xs)], []⟩)])]⟩
noncomputable def ref14_EncodeExtensions_S (N : Nat) : Sig := .of [.cell false (.sl 173 Tq5)] [.cell false .str, .cell false (.int .i64)] (fun a => ref14_EncodeExtensions N a)
theorem ref14_EncodeExtensions_spec (N : Nat) : Spec Tryz.prog 112 (ref14_EncodeExtensions_S N) := spec_of_exe (C := ctx Tryz.prog [(138, ref14_CheckExtensions_S N), (139, ref01_PutBoolean_S N), (35, ref07_Wrap_S N), (28, ref07_Fit_S N), (118, ref07_OID_S N)] ref14_EncodeExtensions_ns) (L := ref14_EncodeExtensions_L) (fn := Tryz.f112) (N := N) (ctx_ok ⟨ref14_CheckExtensions_spec N, ref01_PutBoolean_spec N, ref07_Wrap_spec N, ref07_Fit_spec N, ref07_OID_spec N, trivial⟩) (by kernel_rfl) (by kernel_rfl) (fun a => by kernel_rfl)

def made_Info_ns : List (Nat × Nrm) := [(3, ⟨[2, 3], [], [], [], []⟩), (14, ⟨[0, 2, 3, 4], [], [], [], []⟩), (41, ⟨[0, 2, 3, 4, 13, 27], [], [], [], []⟩)]
def made_Info_L : Lk := ⟨[(41, ⟨[(0, .c (.c (.ptr 0 0))), (2, .c (.c (.ptr 33280 0))), (3, .c (.c (.ptr 33536 0))), (4, .i), (13, .i), (27, .c xb)], [(0, .box [(xl (.int .i64 .nil)), x64]), (33280, .box [(.c (.bool false)), (.c (.bool false)), (.c (.int .i64 0)), (.c (.int .i64 0)), (xo 33285), (xo 33286), (xo 33287), (.c (.int .i64 0)), (.c (.int .i64 0)), (.c (.int .i64 0)), (xo 33291), (.c (.bool false)), (xo 33293), (xo 33294), (.c (.str ([] : Bs))), (.c (.str ([] : Bs))), (xo 33297), (xo 33298), (xo 33299)]), (33285, .arr0 9 false (.str .nil)), (33286, .arr0 9 false (.str .nil)), (33287, .arr0 194 false (.str (.str .nil))), (33291, .arr0 134 false Tq2), (33293, .arr0 134 false Tq2), (33294, .arr0 134 false Tq2), (33297, .arr0 162 false Tq3), (33298, .arr0 162 false Tq3), (33299, .arr0 173 false Tq5), (33536, .box [xb, xb, x64, x64, (xl (.str .nil)), (xl (.str .nil)), (xl (.str (.str .nil))), x64, x64, x64, (xl Tq2), xb, (xl Tq2), (xl Tq2), xs, xs, (xl Tq3), (xl Tq3), (xl Tq5)])]⟩)], [(14, ⟨[(0, .c (.c (.ptr 0 0))), (2, .c (.c (.ptr 33280 0))), (3, .c (.c (.ptr 33536 0))), (4, .c x64)], [(0, .box [(xl (.int .i64 .nil)), x64]), (33280, .box [(.c (.bool false)), (.c (.bool false)), (.c (.int .i64 0)), (.c (.int .i64 0)), (xo 33285), (xo 33286), (xo 33287), (.c (.int .i64 0)), (.c (.int .i64 0)), (.c (.int .i64 0)), (xo 33291), (.c (.bool false)), (xo 33293), (xo 33294), (.c (.str ([] : Bs))), (.c (.str ([] : Bs))), (xo 33297), (xo 33298), (xo 33299)]), (33285, .arr0 9 false (.str .nil)), (33286, .arr0 9 false (.str .nil)), (33287, .arr0 194 false (.str (.str .nil))), (33291, .arr0 134 false Tq2), (33293, .arr0 134 false Tq2), (33294, .arr0 134 false Tq2), (33297, .arr0 162 false Tq3), (33298, .arr0 162 false Tq3), (33299, .arr0 173 false Tq5), (33536, .box [xb, xb, x64, x64, (xl (.str .nil)), (xl (.str .nil)), (xl (.str (.str .nil))), x64, x64, x64, (xl Tq2), xb, (xl Tq2), (xl Tq2), xs, xs, (xl Tq3), (xl Tq3), (xl Tq5)])]⟩, [(0, ⟨[(2, .c (.c (.ptr 33280 0))), (3, .c (.c (.ptr 33536 0)))], [(0, .box [(xl (.int .i64 .nil)), x64]), (33280, .box [(.c (.bool false)), (.c (.bool false)), (.c (.int .i64 0)), (.c (.int .i64 0)), (xo 33285), (xo 33286), (xo 33287), (.c (.int .i64 0)), (.c (.int .i64 0)), (.c (.int .i64 0)), (xo 33291), (.c (.bool false)), (xo 33293), (xo 33294), (.c (.str ([] : Bs))), (.c (.str ([] : Bs))), (xo 33297), (xo 33298), (xo 33299)]), (33285, .arr0 9 false (.str .nil)), (33286, .arr0 9 false (.str .nil)), (33287, .arr0 194 false (.str (.str .nil))), (33291, .arr0 134 false Tq2), (33293, .arr0 134 false Tq2), (33294, .arr0 134 false Tq2), (33297, .arr0 162 false Tq3), (33298, .arr0 162 false Tq3), (33299, .arr0 173 false Tq5), (33536, .box [xb, xb, x64, x64, (xl (.str .nil)), (xl (.str .nil)), (xl (.str (.str .nil))), x64, x64, x64, (xl Tq2), xb, (xl Tq2), (xl Tq2), xs, xs, (xl Tq3), (xl Tq3), (xl Tq5)])]⟩)])]⟩
noncomputable def made_Info_S (N : Nat) : Sig := .of [Sq6] [Sq17] (fun a => made_Info N a)
theorem made_Info_spec (N : Nat) : Spec Tryz.prog 75 (made_Info_S N) := spec_of_exe (C := ctx Tryz.prog [(97, ref14_None_S N), (10, made_Deck_Next_S N), (98, made_oids_S N), (99, made_mappings_S N), (69, made_General_S N), (100, made_Subtrees_S N), (70, made_points_S N)] made_Info_ns) (L := made_Info_L) (fn := Tryz.f75) (N := N) (ctx_ok ⟨ref14_None_spec N, made_Deck_Next_spec N, made_oids_spec N, made_mappings_spec N, made_General_spec N, made_Subtrees_spec N, made_points_spec N, trivial⟩) (by kernel_rfl) (by kernel_rfl) (fun a => by kernel_rfl)

def ref14_EncodeBundle_ns : List (Nat × Nrm) := [(3, ⟨[1, 5], [], [], [], []⟩), (11, ⟨[1, 5], [], [], [], []⟩), (19, ⟨[5], [], [], [], []⟩), (26, ⟨[1, 5, 26, 27, 28], [], [], [], []⟩), (27, ⟨[16], [], [], [], []⟩), (46, ⟨[1, 5, 39, 40, 41], [], [], [], []⟩), (66, ⟨[5, 52, 53, 54], [], [], [], []⟩), (126, ⟨[5, 16, 92], [], [], [], []⟩)]
def ref14_EncodeBundle_L : Lk := ⟨[], [(26, ⟨[(1, .c (.c (.ptr 33024 0))), (5, .c (.c (.oelt 34048 0 0))), (26, .i), (27, .i), (28, .c x64)], [(33024, .box [(xl (.str .nil)), (xl (.str .nil)), (xl (.str (.str .nil)))]), (34048, .arr 59 false (.str .nil))]⟩, [(0, ⟨[(1, .c (.c (.ptr 33024 0))), (5, .c (.c (.oelt 34048 0 0)))], [(33024, .box [(xl (.str .nil)), (xl (.str .nil)), (xl (.str (.str .nil)))]), (34048, .arr 59 false (.str .nil))]⟩)]), (46, ⟨[(1, .c (.c (.ptr 33024 0))), (5, .c (.c (.oelt 34048 0 0))), (39, .i), (40, .i), (41, .c x64)], [(33024, .box [(xl (.str .nil)), (xl (.str .nil)), (xl (.str (.str .nil)))]), (34048, .arr 59 false (.str .nil))]⟩, [(2, ⟨[(1, .c (.c (.ptr 33024 0))), (5, .c (.c (.oelt 34048 0 0)))], [(33024, .box [(xl (.str .nil)), (xl (.str .nil)), (xl (.str (.str .nil)))]), (34048, .arr 59 false (.str .nil))]⟩)]), (66, ⟨[(5, .c (.c (.oelt 34048 0 0))), (52, .i), (53, .i), (54, .c x64)], [(34048, .arr 59 false (.str .nil))]⟩, [(4, ⟨[(5, .c (.c (.oelt 34048 0 0)))], [(34048, .arr 59 false (.str .nil))]⟩)]), (126, ⟨[(5, .c (.c (.oelt 34048 0 0))), (16, .c xs), (92, .c x64)], [(34048, .arr 59 false (.str .nil))]⟩, [(6, ⟨[(16, .c xs)], []⟩)])]⟩
noncomputable def ref14_EncodeBundle_S (N : Nat) : Sig := .of [Sq2] [.cell false .str, .cell false (.int .i64)] (fun a => ref14_EncodeBundle N a)
theorem ref14_EncodeBundle_spec (N : Nat) : Spec Tryz.prog 12 (ref14_EncodeBundle_S N) := spec_of_exe (C := ctx Tryz.prog [(14, ref14_CheckBundle_S N), (27, ref14_someOf_S N), (28, ref07_Fit_S N)] ref14_EncodeBundle_ns) (L := ref14_EncodeBundle_L) (fn := Tryz.f12) (N := N) (ctx_ok ⟨ref14_CheckBundle_spec N, ref14_someOf_spec N, ref07_Fit_spec N, trivial⟩) (by kernel_rfl) (by kernel_rfl) (fun a => by kernel_rfl)

def ref14_DecodeBundle_ns : List (Nat × Nrm) := [(3, ⟨[2, 4, 5, 7], [], [], [(34661, 1004096), (1000000, 1004096)], []⟩), (11, ⟨[2, 4, 5, 7], [], [], [(34662, 1012288), (1008192, 1012288)], []⟩), (19, ⟨[2, 4, 5, 7], [], [], [(34663, 1020480), (1016384, 1020480)], []⟩), (42, ⟨[2, 4, 5, 7, 42, 43, 44], [], [], [(34661, 1000000), (46336, 1000000)], []⟩), (74, ⟨[2, 4, 5, 7, 64, 65, 66], [], [], [(34662, 1008192), (51968, 1008192)], []⟩), (106, ⟨[2, 4, 5, 7, 86, 87, 88], [], [], [(34663, 1016384), (65792, 1016384)], []⟩)]
def ref14_DecodeBundle_L : Lk := ⟨[], [(42, ⟨[(2, .c (.c (.ptr 33280 0))), (4, .c (.c (.ptr 33792 0))), (5, .c (.c (.ptr 34048 0))), (7, .c (.c (.ptr 34560 0))), (42, .i), (43, .i), (44, .c x64)], [(33280, .box [(xo 33281), (xo 33282), (xo 33283)]), (33281, .arr0 9 false (.str .nil)), (33282, .arr0 9 false (.str .nil)), (33283, .arr0 34 false (.str (.str .nil))), (33792, .box [(xo 33893), (xo 33894), (xo 33895)]), (33893, .arr0 9 false (.str .nil)), (33894, .arr0 9 false (.str .nil)), (33895, .arr0 34 false (.str (.str .nil))), (34048, .box [(xl Tq0), x64]), (34560, .box [(xo 1000000), (xo 34662), (xo 34663)]), (34662, .arr0 9 false (.str .nil)), (34663, .arr0 34 false (.str (.str .nil))), (1000000, .arr 9 false (.str .nil))]⟩, [(0, ⟨[(2, .c (.c (.ptr 33280 0))), (4, .c (.c (.ptr 33792 0))), (5, .c (.c (.ptr 34048 0))), (7, .c (.c (.ptr 34560 0)))], [(33280, .box [(xo 33281), (xo 33282), (xo 33283)]), (33281, .arr0 9 false (.str .nil)), (33282, .arr0 9 false (.str .nil)), (33283, .arr0 34 false (.str (.str .nil))), (33792, .box [(xo 33893), (xo 33894), (xo 33895)]), (33893, .arr0 9 false (.str .nil)), (33894, .arr0 9 false (.str .nil)), (33895, .arr0 34 false (.str (.str .nil))), (34048, .box [(xl Tq0), x64]), (34560, .box [(xo 1004096), (xo 34662), (xo 34663)]), (34662, .arr0 9 false (.str .nil)), (34663, .arr0 34 false (.str (.str .nil))), (1004096, .arr 9 false (.str .nil))]⟩)]), (74, ⟨[(2, .c (.c (.ptr 33280 0))), (4, .c (.c (.ptr 33792 0))), (5, .c (.c (.ptr 34048 0))), (7, .c (.c (.ptr 34560 0))), (64, .i), (65, .i), (66, .c x64)], [(33280, .box [(xo 33281), (xo 33282), (xo 33283)]), (33281, .arr0 9 false (.str .nil)), (33282, .arr0 9 false (.str .nil)), (33283, .arr0 34 false (.str (.str .nil))), (33792, .box [(xo 33893), (xo 33894), (xo 33895)]), (33893, .arr0 9 false (.str .nil)), (33894, .arr0 9 false (.str .nil)), (33895, .arr0 34 false (.str (.str .nil))), (34048, .box [(xl Tq0), x64]), (34560, .box [(xo 1004096), (xo 1008192), (xo 34663)]), (34663, .arr0 34 false (.str (.str .nil))), (1004096, .arr 9 false (.str .nil)), (1008192, .arr 9 false (.str .nil))]⟩, [(2, ⟨[(2, .c (.c (.ptr 33280 0))), (4, .c (.c (.ptr 33792 0))), (5, .c (.c (.ptr 34048 0))), (7, .c (.c (.ptr 34560 0)))], [(33280, .box [(xo 33281), (xo 33282), (xo 33283)]), (33281, .arr0 9 false (.str .nil)), (33282, .arr0 9 false (.str .nil)), (33283, .arr0 34 false (.str (.str .nil))), (33792, .box [(xo 33893), (xo 33894), (xo 33895)]), (33893, .arr0 9 false (.str .nil)), (33894, .arr0 9 false (.str .nil)), (33895, .arr0 34 false (.str (.str .nil))), (34048, .box [(xl Tq0), x64]), (34560, .box [(xo 1004096), (xo 1012288), (xo 34663)]), (34663, .arr0 34 false (.str (.str .nil))), (1004096, .arr 9 false (.str .nil)), (1012288, .arr 9 false (.str .nil))]⟩)]), (106, ⟨[(2, .c (.c (.ptr 33280 0))), (4, .c (.c (.ptr 33792 0))), (5, .c (.c (.ptr 34048 0))), (7, .c (.c (.ptr 34560 0))), (86, .i), (87, .i), (88, .c x64)], [(33280, .box [(xo 33281), (xo 33282), (xo 33283)]), (33281, .arr0 9 false (.str .nil)), (33282, .arr0 9 false (.str .nil)), (33283, .arr0 34 false (.str (.str .nil))), (33792, .box [(xo 33893), (xo 33894), (xo 33895)]), (33893, .arr0 9 false (.str .nil)), (33894, .arr0 9 false (.str .nil)), (33895, .arr0 34 false (.str (.str .nil))), (34048, .box [(xl Tq0), x64]), (34560, .box [(xo 1004096), (xo 1012288), (xo 1016384)]), (1004096, .arr 9 false (.str .nil)), (1012288, .arr 9 false (.str .nil)), (1016384, .arr 34 false (.str (.str .nil)))]⟩, [(4, ⟨[(2, .c (.c (.ptr 33280 0))), (4, .c (.c (.ptr 33792 0))), (5, .c (.c (.ptr 34048 0))), (7, .c (.c (.ptr 34560 0)))], [(33280, .box [(xo 33281), (xo 33282), (xo 33283)]), (33281, .arr0 9 false (.str .nil)), (33282, .arr0 9 false (.str .nil)), (33283, .arr0 34 false (.str (.str .nil))), (33792, .box [(xo 33893), (xo 33894), (xo 33895)]), (33893, .arr0 9 false (.str .nil)), (33894, .arr0 9 false (.str .nil)), (33895, .arr0 34 false (.str (.str .nil))), (34048, .box [(xl Tq0), x64]), (34560, .box [(xo 1004096), (xo 1012288), (xo 1020480)]), (1004096, .arr 9 false (.str .nil)), (1012288, .arr 9 false (.str .nil)), (1020480, .arr 34 false (.str (.str .nil)))]⟩)])]⟩
noncomputable def ref14_DecodeBundle_S (N : Nat) : Sig := .of [.cell false .str] [Sq2, .cell false (.int .i64)] (fun a => ref14_DecodeBundle N a)
theorem ref14_DecodeBundle_spec (N : Nat) : Spec Tryz.prog 18 (ref14_DecodeBundle_S N) := spec_of_exe (C := ctx Tryz.prog [(40, ref14_open_S N), (41, ref14_raws_S N), (42, ref07_Open_S N), (43, ref14_half_S N), (44, ref07_Fields_End_S N), (14, ref14_CheckBundle_S N)] ref14_DecodeBundle_ns) (L := ref14_DecodeBundle_L) (fn := Tryz.f18) (N := N) (ctx_ok ⟨ref14_open_spec N, ref14_raws_spec N, ref07_Open_spec N, ref14_half_spec N, ref07_Fields_End_spec N, ref14_CheckBundle_spec N, trivial⟩) (by kernel_rfl) (by kernel_rfl) (fun a => by kernel_rfl)

end Go.Proofs.YtegnjlmdppobmaaGreat.Vm

/-
  The functions of the program compute what is printed of them.
-/
namespace Go.Proofs.YtegnjlmdppobmaaGreat.Vm
open Go.Proofs
def bundle_Check_ns : List (Nat × Nrm) := [(3, ⟨[1], [], [], [], []⟩), (11, ⟨[1, 31, 32, 33], [], [], [], []⟩), (18, ⟨[1, 31, 32, 33], [], [], [], []⟩), (19, ⟨[], [], [], [], []⟩), (30, ⟨[1, 31, 32, 33, 37, 38, 39], [], [], [], []⟩), (62, ⟨[51, 52, 53], [], [], [], []⟩)]
def bundle_Check_L : Lk := ⟨[], [(18, ⟨[(1, .c (.c (.ptr 33024 0))), (31, .c (xo 40704)), (32, .i), (33, .c x64)], [(33024, .box [(xl (.str .nil)), (xl (.str .nil)), (xl (.str (.str .nil)))]), (40704, .arr 22 false (.sl 9 (.str .nil) .nil))]⟩, [(0, ⟨[(1, .c (.c (.ptr 33024 0)))], [(33024, .box [(xl (.str .nil)), (xl (.str .nil)), (xl (.str (.str .nil)))])]⟩)]), (30, ⟨[(1, .c (.c (.ptr 33024 0))), (31, .c (xo 40704)), (32, .i), (33, .i), (37, .i), (38, .i), (39, .c x64)], [(33024, .box [(xl (.str .nil)), (xl (.str .nil)), (xl (.str (.str .nil)))]), (40704, .arr 22 false (.sl 9 (.str .nil) .nil))]⟩, [(2, ⟨[(1, .c (.c (.ptr 33024 0))), (31, .c (xo 40704)), (32, .i), (33, .i)], [(33024, .box [(xl (.str .nil)), (xl (.str .nil)), (xl (.str (.str .nil)))]), (40704, .arr 22 false (.sl 9 (.str .nil) .nil))]⟩)]), (62, ⟨[(51, .i), (52, .i), (53, .c x64)], []⟩, [(4, ⟨[], []⟩)])]⟩
noncomputable def bundle_Check_S (N : Nat) : Sig := .of [Sq2] [.cell false (.int .i64)] (fun a => bundle_Check N a)
theorem bundle_Check_spec (N : Nat) : Spec Tryz.prog 13 (bundle_Check_S N) := spec_of_exe (C := ctx Tryz.prog [(29, bundle_checkOne_S N), (30, bundle_checkPair_S N)] bundle_Check_ns) (L := bundle_Check_L) (fn := Tryz.f13) (N := N) (ctx_ok ⟨bundle_checkOne_spec N, bundle_checkPair_spec N, trivial⟩) (by kernel_rfl) (by kernel_rfl) (fun a => by kernel_rfl)

def ref14_checkNames_ns : List (Nat × Nrm) := [(3, ⟨[], [], [], [], []⟩), (18, ⟨[9, 10, 11], [], [], [], []⟩)]
def ref14_checkNames_L : Lk := ⟨[], [(18, ⟨[(9, .i), (10, .i), (11, .c x64)], []⟩, [(0, ⟨[], []⟩)])]⟩
noncomputable def ref14_checkNames_S (N : Nat) : Sig := .of [.cell false (.sl 134 Tq2)] [.cell false (.int .i64)] (fun a => ref14_checkNames N a)
theorem ref14_checkNames_spec (N : Nat) : Spec Tryz.prog 133 (ref14_checkNames_S N) := spec_of_exe (C := ctx Tryz.prog [(157, ref07_CheckGeneral_S N)] ref14_checkNames_ns) (L := ref14_checkNames_L) (fn := Tryz.f133) (N := N) (ctx_ok ⟨ref07_CheckGeneral_spec N, trivial⟩) (by kernel_rfl) (by kernel_rfl) (fun a => by kernel_rfl)

noncomputable def ref07_MatchName_S (N : Nat) : Sig := .of [Sq7, Sq7] [.cell false .bool] (fun a => ref07_MatchName N a.1 a.2)
theorem ref07_MatchName_spec (N : Nat) : Spec Tryz.prog 91 (ref07_MatchName_S N) := spec_of_exe (C := ctx Tryz.prog [(119, ref07_WithinName_S N)] []) (L := ⟨[], []⟩) (fn := Tryz.f91) (N := N) (ctx_ok ⟨ref07_WithinName_spec N, trivial⟩) (by kernel_rfl) (by kernel_rfl) (fun a => by kernel_rfl)

noncomputable def ref07_EncodeGeneral_S (N : Nat) : Sig := .of [Sq9, .cell false .bool] [.cell false .str, .cell false (.int .i64)] (fun a => ref07_EncodeGeneral N a.1 a.2)
theorem ref07_EncodeGeneral_spec (N : Nat) : Spec Tryz.prog 158 (ref07_EncodeGeneral_S N) := spec_of_exe (C := ctx Tryz.prog [(157, ref07_CheckGeneral_S N), (83, ref07_EncodeName_S N), (35, ref07_Wrap_S N)] []) (L := ⟨[], []⟩) (fn := Tryz.f158) (N := N) (ctx_ok ⟨ref07_CheckGeneral_spec N, ref07_EncodeName_spec N, ref07_Wrap_spec N, trivial⟩) (by kernel_rfl) (by kernel_rfl) (fun a => by kernel_rfl)

noncomputable def ref14_wrapped_S (N : Nat) : Sig := .of [.cell false (.int .i64), .cell false (.sl 173 Tq5)] [.cell false .str, .cell false (.int .i64)] (fun a => ref14_wrapped N a.1 a.2)
theorem ref14_wrapped_spec (N : Nat) : Spec Tryz.prog 87 (ref14_wrapped_S N) := spec_of_exe (C := ctx Tryz.prog [(112, ref14_EncodeExtensions_S N), (28, ref07_Fit_S N)] []) (L := ⟨[], []⟩) (fn := Tryz.f87) (N := N) (ctx_ok ⟨ref14_EncodeExtensions_spec N, ref07_Fit_spec N, trivial⟩) (by kernel_rfl) (by kernel_rfl) (fun a => by kernel_rfl)

def ref07_CheckSubtrees_ns : List (Nat × Nrm) := [(3, ⟨[], [], [], [], []⟩), (26, ⟨[31, 32, 33], [], [], [], []⟩)]
def ref07_CheckSubtrees_L : Lk := ⟨[], [(26, ⟨[(31, .c (xo 40704)), (32, .i), (33, .c x64)], [(40704, .arr 134 false Tq2)]⟩, [(0, ⟨[], []⟩)])]⟩
noncomputable def ref07_CheckSubtrees_S (N : Nat) : Sig := .of [Sq16] [.cell false (.int .i64)] (fun a => ref07_CheckSubtrees N a)
theorem ref07_CheckSubtrees_spec (N : Nat) : Spec Tryz.prog 146 (ref07_CheckSubtrees_S N) := spec_of_exe (C := ctx Tryz.prog [(157, ref07_CheckGeneral_S N)] ref07_CheckSubtrees_ns) (L := ref07_CheckSubtrees_L) (fn := Tryz.f146) (N := N) (ctx_ok ⟨ref07_CheckGeneral_spec N, trivial⟩) (by kernel_rfl) (by kernel_rfl) (fun a => by kernel_rfl)

def made_Cert_ns : List (Nat × Nrm) := [(17, ⟨[2, 3], [], [], [], []⟩)]
def made_Cert_L : Lk := ⟨[(17, ⟨[(2, .c (.c (.ptr 33280 0))), (3, .c (.c (.ptr 33536 0)))], [(0, .box [(xl (.int .i64 .nil)), x64]), (33280, .box [(.c (.str ([] : Bs))), (.c (.str ([] : Bs))), (.c (.int .i64 0)), (xo 33284), (xo 33285), (.c (.int .i64 0)), (.c (.int .i64 0)), (.c (.int .i64 0)), (.c (.str ([] : Bs))), (.c (.str ([] : Bs))), (.c (.bool false)), (.c (.bool false)), (.c (.int .i64 0)), (.c (.int .i64 0)), (xo 33295), (xo 33296), (xo 33297), (.c (.int .i64 0)), (.c (.int .i64 0)), (.c (.int .i64 0)), (xo 33301), (.c (.bool false)), (xo 33303), (xo 33304), (.c (.str ([] : Bs))), (.c (.str ([] : Bs))), (xo 33307), (xo 33308), (xo 33309), (.c (.str ([] : Bs)))]), (33284, .arr0 160 false (.sl 159 Tq1 .nil)), (33285, .arr0 160 false (.sl 159 Tq1 .nil)), (33295, .arr0 9 false (.str .nil)), (33296, .arr0 9 false (.str .nil)), (33297, .arr0 194 false (.str (.str .nil))), (33301, .arr0 134 false Tq2), (33303, .arr0 134 false Tq2), (33304, .arr0 134 false Tq2), (33307, .arr0 162 false Tq3), (33308, .arr0 162 false Tq3), (33309, .arr0 173 false Tq5), (33536, .box [(.c (.str ([] : Bs))), (.c (.str ([] : Bs))), x64, (xl (.sl 159 Tq1 .nil)), (xl (.sl 159 Tq1 .nil)), x64, x64, x64, xs, xs, xb, xb, x64, x64, (xl (.str .nil)), (xl (.str .nil)), (xl (.str (.str .nil))), x64, x64, x64, (xl Tq2), xb, (xl Tq2), (xl Tq2), xs, xs, (xl Tq3), (xl Tq3), (xl Tq5), (.c (.str ([] : Bs)))])]⟩)], []⟩
noncomputable def made_Cert_S (N : Nat) : Sig := .of [Sq6] [Sq18] (fun a => made_Cert N a)
theorem made_Cert_spec (N : Nat) : Spec Tryz.prog 52 (made_Cert_S N) := spec_of_exe (C := ctx Tryz.prog [(10, made_Deck_Next_S N), (67, made_Authority_S N), (73, made_Name_S N), (68, made_Time_S N), (74, made_Key_S N), (75, made_Info_S N)] made_Cert_ns) (L := made_Cert_L) (fn := Tryz.f52) (N := N) (ctx_ok ⟨made_Deck_Next_spec N, made_Authority_spec N, made_Name_spec N, made_Time_spec N, made_Key_spec N, made_Info_spec N, trivial⟩) (by kernel_rfl) (by kernel_rfl) (fun a => by kernel_rfl)

end Go.Proofs.YtegnjlmdppobmaaGreat.Vm

/-
  The functions of the program compute what is printed of them.
-/
namespace Go.Proofs.YtegnjlmdppobmaaGreat.Vm
open Go.Proofs
def bundle_Encode_ns : List (Nat × Nrm) := [(3, ⟨[1, 5, 6], [([6], 9, (.str .nil), 1004096)], [], [(1000000, 1004096)], [1004096]⟩), (30, ⟨[1, 5, 6, 18, 19, 20], [([6], 9, (.str .nil), 1000000)], [], [(42752, 1000000)], []⟩)]
def bundle_Encode_L : Lk := ⟨[], [(30, ⟨[(1, .c (.c (.ptr 33024 0))), (5, .c (.c (.ptr 36864 0))), (6, .c (xo 1000000)), (18, .i), (19, .i), (20, .c x64)], [(33024, .box [(xl (.str .nil)), (xl (.str .nil)), (xl (.str (.str .nil)))]), (36864, .box [xb]), (1000000, .arr 9 false (.str .nil))]⟩, [(0, ⟨[(1, .c (.c (.ptr 33024 0))), (5, .c (.c (.ptr 36864 0))), (6, .c (xo 1004096))], [(33024, .box [(xl (.str .nil)), (xl (.str .nil)), (xl (.str (.str .nil)))]), (36864, .box [xb]), (1004096, .arr 9 true (.str .nil))]⟩)])]⟩
noncomputable def bundle_Encode_S (N : Nat) : Sig := .of [Sq2] [.cell false .str, .cell false (.int .i64)] (fun a => bundle_Encode N a)
theorem bundle_Encode_spec (N : Nat) : Spec Tryz.prog 11 (bundle_Encode_S N) := spec_of_exe (C := ctx Tryz.prog [(13, bundle_Check_S N), (25, bundle_part_S N), (24, der_Writer_Seq_S N), (26, der_Writer_Bad_S N)] bundle_Encode_ns) (L := bundle_Encode_L) (fn := Tryz.f11) (N := N) (ctx_ok ⟨bundle_Check_spec N, bundle_part_spec N, der_Writer_Seq_spec N, der_Writer_Bad_spec N, trivial⟩) (by kernel_rfl) (by kernel_rfl) (fun a => by kernel_rfl)

def bundle_Decode_ns : List (Nat × Nrm) := [(3, ⟨[2, 4, 5, 6], [], [], [(34051, 1004096), (1000000, 1004096)], []⟩), (62, ⟨[2, 4, 5, 6, 53, 54, 55], [], [], [(34051, 1000000), (51200, 1000000)], []⟩)]
def bundle_Decode_L : Lk := ⟨[], [(62, ⟨[(2, .c (.c (.ptr 33280 0))), (4, .c (.c (.ptr 33792 0))), (5, .c (.c (.ptr 34048 0))), (6, .c (.c (.ptr 37120 0))), (53, .i), (54, .i), (55, .c x64)], [(33280, .box [(xo 33281), (xo 33282), (xo 33283)]), (33281, .arr0 9 false (.str .nil)), (33282, .arr0 9 false (.str .nil)), (33283, .arr0 34 false (.str (.str .nil))), (33792, .box [(xo 33793), (xo 33794), (xo 33795)]), (33793, .arr0 9 false (.str .nil)), (33794, .arr0 9 false (.str .nil)), (33795, .arr0 34 false (.str (.str .nil))), (34048, .box [(xl (.str .nil)), (xl (.str .nil)), (xo 1000000)]), (37120, .box [(xl Tq0)]), (1000000, .arr 34 false (.str (.str .nil)))]⟩, [(0, ⟨[(2, .c (.c (.ptr 33280 0))), (4, .c (.c (.ptr 33792 0))), (5, .c (.c (.ptr 34048 0))), (6, .c (.c (.ptr 37120 0)))], [(33280, .box [(xo 33281), (xo 33282), (xo 33283)]), (33281, .arr0 9 false (.str .nil)), (33282, .arr0 9 false (.str .nil)), (33283, .arr0 34 false (.str (.str .nil))), (33792, .box [(xo 33793), (xo 33794), (xo 33795)]), (33793, .arr0 9 false (.str .nil)), (33794, .arr0 9 false (.str .nil)), (33795, .arr0 34 false (.str (.str .nil))), (34048, .box [(xl (.str .nil)), (xl (.str .nil)), (xo 1004096)]), (37120, .box [(xl Tq0)]), (1004096, .arr 34 false (.str (.str .nil)))]⟩)])]⟩
noncomputable def bundle_Decode_S (N : Nat) : Sig := .of [.cell false .str] [Sq2, .cell false (.int .i64)] (fun a => bundle_Decode N a)
theorem bundle_Decode_spec (N : Nat) : Spec Tryz.prog 17 (bundle_Decode_S N) := spec_of_exe (C := ctx Tryz.prog [(37, bundle_decodePart_S N), (38, bundle_decodePair_S N), (39, der_Reader_Done_S N), (13, bundle_Check_S N)] bundle_Decode_ns [(36, der_Open_A N)]) (L := bundle_Decode_L) (fn := Tryz.f17) (N := N) (ctx_ok ⟨bundle_decodePart_spec N, bundle_decodePair_spec N, der_Reader_Done_spec N, bundle_Check_spec N, trivial⟩ ⟨der_Open_alt N, trivial⟩) (by kernel_rfl) (by kernel_rfl) (fun a => by kernel_rfl)

noncomputable def ref14_checkScope_S (N : Nat) : Sig := .of [Sq10] [.cell false (.int .i64)] (fun a => ref14_checkScope N a)
theorem ref14_checkScope_spec (N : Nat) : Spec Tryz.prog 104 (ref14_checkScope_S N) := spec_of_exe (C := ctx Tryz.prog [(132, ref14_zeroScope_S N), (133, ref14_checkNames_S N)] []) (L := ⟨[], []⟩) (fn := Tryz.f104) (N := N) (ctx_ok ⟨ref14_zeroScope_spec N, ref14_checkNames_spec N, trivial⟩) (by kernel_rfl) (by kernel_rfl) (fun a => by kernel_rfl)

def ref14_CheckPoints_ns : List (Nat × Nrm) := [(3, ⟨[], [], [], [], []⟩), (18, ⟨[10, 11, 12], [], [], [], []⟩)]
def ref14_CheckPoints_L : Lk := ⟨[], [(18, ⟨[(10, .i), (11, .i), (12, .c x64)], []⟩, [(0, ⟨[], []⟩)])]⟩
noncomputable def ref14_CheckPoints_S (N : Nat) : Sig := .of [.cell false (.sl 162 Tq3)] [.cell false (.int .i64)] (fun a => ref14_CheckPoints N a)
theorem ref14_CheckPoints_spec (N : Nat) : Spec Tryz.prog 105 (ref14_CheckPoints_S N) := spec_of_exe (C := ctx Tryz.prog [(133, ref14_checkNames_S N), (103, ref07_CheckName_S N)] ref14_CheckPoints_ns) (L := ref14_CheckPoints_L) (fn := Tryz.f105) (N := N) (ctx_ok ⟨ref14_checkNames_spec N, ref07_CheckName_spec N, trivial⟩) (by kernel_rfl) (by kernel_rfl) (fun a => by kernel_rfl)

def ref14_checkEntry_ns : List (Nat × Nrm) := [(3, ⟨[], [], [], [], []⟩), (66, ⟨[1, 2, 5, 7], [], [], [], []⟩)]
def ref14_checkEntry_L : Lk := ⟨[], [(66, ⟨[(1, .i), (2, .c (.c (.ptr 33280 0))), (5, .c (.c (.ptr 34048 0))), (7, .c x64)], [(33280, .box [xs, xs, (xl (.sl 159 Tq1 .nil)), x64, x64, x64, x64, xs, xb, (xl Tq2), xb, xb, x64, xb, (xl Tq3), (xl Tq4), xs]), (34048, .box [x64, x64, x64, x64, (xl (.sl 159 Tq1 .nil))])]⟩, [(0, ⟨[], []⟩)])]⟩
noncomputable def ref14_checkEntry_S (N : Nat) : Sig := .of [Sq10, .cell false (.int .i64)] [.cell false (.int .i64)] (fun a => ref14_checkEntry N a.1 a.2)
theorem ref14_checkEntry_spec (N : Nat) : Spec Tryz.prog 106 (ref14_checkEntry_S N) := spec_of_exe (C := ctx Tryz.prog [(134, ref14_reason_S N), (103, ref07_CheckName_S N), (91, ref07_MatchName_S N)] ref14_checkEntry_ns) (L := ref14_checkEntry_L) (fn := Tryz.f106) (N := N) (ctx_ok ⟨ref14_reason_spec N, ref07_CheckName_spec N, ref07_MatchName_spec N, trivial⟩) (by kernel_rfl) (by kernel_rfl) (fun a => by kernel_rfl)

def ref07_EncodeList_ns : List (Nat × Nrm) := [(3, ⟨[4], [], [], [], []⟩), (30, ⟨[4, 15, 16, 17], [], [], [], []⟩)]
def ref07_EncodeList_L : Lk := ⟨[], [(30, ⟨[(4, .c xs), (15, .i), (16, .i), (17, .c x64)], []⟩, [(0, ⟨[(4, .c xs)], []⟩)])]⟩
noncomputable def ref07_EncodeList_S (N : Nat) : Sig := .of [.cell false (.sl 134 Tq2)] [.cell false .str, .cell false (.int .i64)] (fun a => ref07_EncodeList N a)
theorem ref07_EncodeList_spec (N : Nat) : Spec Tryz.prog 137 (ref07_EncodeList_S N) := spec_of_exe (C := ctx Tryz.prog [(158, ref07_EncodeGeneral_S N)] ref07_EncodeList_ns) (L := ref07_EncodeList_L) (fn := Tryz.f137) (N := N) (ctx_ok ⟨ref07_EncodeGeneral_spec N, trivial⟩) (by kernel_rfl) (by kernel_rfl) (fun a => by kernel_rfl)

def ref14_FindEntry_ns : List (Nat × Nrm) := [(3, ⟨[6], [], [], [], []⟩), (10, ⟨[2, 4, 6, 11, 12, 13], [], [], [], []⟩)]
def ref14_FindEntry_L : Lk := ⟨[], [(10, ⟨[(2, .i), (4, .c (.c (.ptr 33792 0))), (6, .c (.c (.ptr 34304 0))), (11, .i), (12, .i), (13, .c x64)], [(33792, .box [(xl (.sl 159 Tq1 .nil))]), (34304, .box [(.c (.int .i64 0)), (.c (.int .i64 0)), (.c (.int .i64 0)), (.c (.int .i64 0)), (xo 34309)]), (34309, .arr0 160 false (.sl 159 Tq1 .nil))]⟩, [(0, ⟨[(6, .c (.c (.ptr 34304 0)))], [(34304, .box [(.c (.int .i64 0)), (.c (.int .i64 0)), (.c (.int .i64 0)), (.c (.int .i64 0)), (xo 34309)]), (34309, .arr0 160 false (.sl 159 Tq1 .nil))]⟩)])]⟩
noncomputable def ref14_FindEntry_S (N : Nat) : Sig := .of [Sq10, Sq7, .cell false (.int .i64)] [Sq14, .cell false .bool] (fun a => ref14_FindEntry N a.1 a.2.1 a.2.2)
theorem ref14_FindEntry_spec (N : Nat) : Spec Tryz.prog 71 (ref14_FindEntry_S N) := spec_of_exe (C := ctx Tryz.prog [(91, ref07_MatchName_S N)] ref14_FindEntry_ns) (L := ref14_FindEntry_L) (fn := Tryz.f71) (N := N) (ctx_ok ⟨ref07_MatchName_spec N, trivial⟩) (by kernel_rfl) (by kernel_rfl) (fun a => by kernel_rfl)

def ref07_part_ns : List (Nat × Nrm) := [(3, ⟨[0, 6], [], [], [], []⟩), (22, ⟨[0, 6, 14, 15, 16], [], [], [], []⟩)]
def ref07_part_L : Lk := ⟨[], [(22, ⟨[(0, .i), (6, .c xs), (14, .i), (15, .i), (16, .c x64)], []⟩, [(0, ⟨[(0, .i), (6, .c xs)], []⟩)])]⟩
noncomputable def ref07_part_S (N : Nat) : Sig := .of [.cell false (.int .i64), .cell false (.sl 134 Tq2)] [.cell false .str, .cell false (.int .i64)] (fun a => ref07_part N a.1 a.2)
theorem ref07_part_spec (N : Nat) : Spec Tryz.prog 163 (ref07_part_S N) := spec_of_exe (C := ctx Tryz.prog [(158, ref07_EncodeGeneral_S N), (35, ref07_Wrap_S N), (28, ref07_Fit_S N)] ref07_part_ns) (L := ref07_part_L) (fn := Tryz.f163) (N := N) (ctx_ok ⟨ref07_EncodeGeneral_spec N, ref07_Wrap_spec N, ref07_Fit_spec N, trivial⟩) (by kernel_rfl) (by kernel_rfl) (fun a => by kernel_rfl)

end Go.Proofs.YtegnjlmdppobmaaGreat.Vm

/-
  The functions of the program compute what is printed of them.
-/
namespace Go.Proofs.YtegnjlmdppobmaaGreat.Vm
open Go.Proofs
noncomputable def law20_awake_S (N : Nat) : Sig := .of [] [.cell false .bool] (fun _ => law20_awake N)
theorem law20_awake_spec (N : Nat) : Spec Tryz.prog 7 (law20_awake_S N) := spec_of_exe (C := ctx Tryz.prog [(11, bundle_Encode_S N), (17, bundle_Decode_S N)] []) (L := ⟨[], []⟩) (fn := Tryz.f7) (N := N) (ctx_ok ⟨bundle_Encode_spec N, bundle_Decode_spec N, trivial⟩) (by kernel_rfl) (by kernel_rfl) (fun a => by kernel_rfl)

def ref14_CheckList_ns : List (Nat × Nrm) := [(3, ⟨[], [], [], [], []⟩), (94, ⟨[1, 104, 105], [], [], [], []⟩)]
def ref14_CheckList_L : Lk := ⟨[], [(94, ⟨[(1, .c (.c (.ptr 33024 0))), (104, .i), (105, .c x64)], [(33024, .box [xs, xs, (xl (.sl 159 Tq1 .nil)), x64, x64, x64, x64, xs, xb, (xl Tq2), xb, xb, x64, xb, (xl Tq3), (xl Tq4), xs])]⟩, [(0, ⟨[], []⟩)])]⟩
noncomputable def ref14_CheckList_S (N : Nat) : Sig := .of [Sq10] [.cell false (.int .i64)] (fun a => ref14_CheckList N a)
theorem ref14_CheckList_spec (N : Nat) : Spec Tryz.prog 82 (ref14_CheckList_S N) := spec_of_exe (C := ctx Tryz.prog [(103, ref07_CheckName_S N), (104, ref14_checkScope_S N), (105, ref14_CheckPoints_S N), (106, ref14_checkEntry_S N)] ref14_CheckList_ns) (L := ref14_CheckList_L) (fn := Tryz.f82) (N := N) (ctx_ok ⟨ref07_CheckName_spec N, ref14_checkScope_spec N, ref14_CheckPoints_spec N, ref14_checkEntry_spec N, trivial⟩) (by kernel_rfl) (by kernel_rfl) (fun a => by kernel_rfl)

noncomputable def ref14_directory_S (N : Nat) : Sig := .of [Sq7] [.cell false .str] (fun a => ref14_directory N a)
theorem ref14_directory_spec (N : Nat) : Spec Tryz.prog 111 (ref14_directory_S N) := spec_of_exe (C := ctx Tryz.prog [(137, ref07_EncodeList_S N)] []) (L := ⟨[], []⟩) (fn := Tryz.f111) (N := N) (ctx_ok ⟨ref07_EncodeList_spec N, trivial⟩) (by kernel_rfl) (by kernel_rfl) (fun a => by kernel_rfl)

noncomputable def ref14_fullNames_S (N : Nat) : Sig := .of [.cell false (.sl 134 Tq2)] [.cell false .str] (fun a => ref14_fullNames N a)
theorem ref14_fullNames_spec (N : Nat) : Spec Tryz.prog 113 (ref14_fullNames_S N) := spec_of_exe (C := ctx Tryz.prog [(137, ref07_EncodeList_S N), (35, ref07_Wrap_S N)] []) (L := ⟨[], []⟩) (fn := Tryz.f113) (N := N) (ctx_ok ⟨ref07_EncodeList_spec N, ref07_Wrap_spec N, trivial⟩) (by kernel_rfl) (by kernel_rfl) (fun a => by kernel_rfl)

def made_List_ns : List (Nat × Nrm) := [(7, ⟨[2, 3], [], [], [(33652, 1036864), (1020480, 1036864)], [1036864]⟩), (17, ⟨[0, 2, 3], [], [], [], []⟩), (25, ⟨[0, 2, 3], [], [], [], []⟩), (33, ⟨[0, 2, 3], [], [], [], []⟩), (69, ⟨[0, 2, 3], [], [(some 33536, 9, Tq2)], [], []⟩), (77, ⟨[0, 2, 3], [], [(some 33536, 14, Tq3)], [], []⟩), (82, ⟨[0, 2, 3, 4], [], [], [(33652, 1020480), (69632, 1020480), (1032768, 1020480)], [1020480]⟩), (101, ⟨[0, 2, 3, 4, 5], [], [], [(33652, 1024576), (1020480, 1024576)], [1024576]⟩), (109, ⟨[0, 2, 3, 4, 5], [], [], [(33652, 1028672), (1024576, 1028672)], [1028672]⟩), (117, ⟨[0, 2, 3, 4, 5], [], [], [(33652, 1032768), (1028672, 1032768)], [1032768]⟩)]
def made_List_L : Lk := ⟨[(17, ⟨[(0, .c (.c (.ptr 0 0))), (2, .c (.c (.ptr 33280 0))), (3, .c (.c (.ptr 33536 0)))], [(0, .box [(xl (.int .i64 .nil)), x64]), (33280, .box [(.c (.str ([] : Bs))), (.c (.str ([] : Bs))), (xo 33283), (.c (.int .i64 0)), (.c (.int .i64 0)), (.c (.int .i64 0)), (.c (.int .i64 0)), (.c (.str ([] : Bs))), (.c (.bool false)), (xo 33290), (.c (.bool false)), (.c (.bool false)), (.c (.int .i64 0)), (.c (.bool false)), (xo 33295), (xo 33296), (.c (.str ([] : Bs)))]), (33283, .arr0 160 false (.sl 159 Tq1 .nil)), (33290, .arr0 134 false Tq2), (33295, .arr0 162 false Tq3), (33296, .arr0 138 false Tq4), (33536, .box [(.c (.str ([] : Bs))), (.c (.str ([] : Bs))), (xl (.sl 159 Tq1 .nil)), x64, x64, x64, (.c (.int .i64 (-1))), (.c (.str ([] : Bs))), (.c (.bool false)), (xo 33646), (.c (.bool false)), (.c (.bool false)), (.c (.int .i64 0)), (.c (.bool false)), (xo 33651), (xo 33652), (.c (.str ([] : Bs)))]), (33646, .arr0 134 false Tq2), (33651, .arr0 162 false Tq3), (33652, .arr0 138 false Tq4)]⟩), (25, ⟨[(0, .c (.c (.ptr 0 0))), (2, .c (.c (.ptr 33280 0))), (3, .c (.c (.ptr 33536 0)))], [(0, .box [(xl (.int .i64 .nil)), x64]), (33280, .box [(.c (.str ([] : Bs))), (.c (.str ([] : Bs))), (xo 33283), (.c (.int .i64 0)), (.c (.int .i64 0)), (.c (.int .i64 0)), (.c (.int .i64 0)), (.c (.str ([] : Bs))), (.c (.bool false)), (xo 33290), (.c (.bool false)), (.c (.bool false)), (.c (.int .i64 0)), (.c (.bool false)), (xo 33295), (xo 33296), (.c (.str ([] : Bs)))]), (33283, .arr0 160 false (.sl 159 Tq1 .nil)), (33290, .arr0 134 false Tq2), (33295, .arr0 162 false Tq3), (33296, .arr0 138 false Tq4), (33536, .box [(.c (.str ([] : Bs))), (.c (.str ([] : Bs))), (xl (.sl 159 Tq1 .nil)), x64, x64, x64, x64, (.c (.str ([] : Bs))), (.c (.bool false)), (xo 33646), (.c (.bool false)), (.c (.bool false)), (.c (.int .i64 0)), (.c (.bool false)), (xo 33651), (xo 33652), (.c (.str ([] : Bs)))]), (33646, .arr0 134 false Tq2), (33651, .arr0 162 false Tq3), (33652, .arr0 138 false Tq4)]⟩), (33, ⟨[(0, .c (.c (.ptr 0 0))), (2, .c (.c (.ptr 33280 0))), (3, .c (.c (.ptr 33536 0)))], [(0, .box [(xl (.int .i64 .nil)), x64]), (33280, .box [(.c (.str ([] : Bs))), (.c (.str ([] : Bs))), (xo 33283), (.c (.int .i64 0)), (.c (.int .i64 0)), (.c (.int .i64 0)), (.c (.int .i64 0)), (.c (.str ([] : Bs))), (.c (.bool false)), (xo 33290), (.c (.bool false)), (.c (.bool false)), (.c (.int .i64 0)), (.c (.bool false)), (xo 33295), (xo 33296), (.c (.str ([] : Bs)))]), (33283, .arr0 160 false (.sl 159 Tq1 .nil)), (33290, .arr0 134 false Tq2), (33295, .arr0 162 false Tq3), (33296, .arr0 138 false Tq4), (33536, .box [(.c (.str ([] : Bs))), (.c (.str ([] : Bs))), (xl (.sl 159 Tq1 .nil)), x64, x64, x64, x64, xs, (.c (.bool false)), (xo 33646), (.c (.bool false)), (.c (.bool false)), (.c (.int .i64 0)), (.c (.bool false)), (xo 33651), (xo 33652), (.c (.str ([] : Bs)))]), (33646, .arr0 134 false Tq2), (33651, .arr0 162 false Tq3), (33652, .arr0 138 false Tq4)]⟩), (69, ⟨[(0, .c (.c (.ptr 0 0))), (2, .c (.c (.ptr 33280 0))), (3, .c (.c (.ptr 33536 0)))], [(0, .box [(xl (.int .i64 .nil)), x64]), (33280, .box [(.c (.str ([] : Bs))), (.c (.str ([] : Bs))), (xo 33283), (.c (.int .i64 0)), (.c (.int .i64 0)), (.c (.int .i64 0)), (.c (.int .i64 0)), (.c (.str ([] : Bs))), (.c (.bool false)), (xo 33290), (.c (.bool false)), (.c (.bool false)), (.c (.int .i64 0)), (.c (.bool false)), (xo 33295), (xo 33296), (.c (.str ([] : Bs)))]), (33283, .arr0 160 false (.sl 159 Tq1 .nil)), (33290, .arr0 134 false Tq2), (33295, .arr0 162 false Tq3), (33296, .arr0 138 false Tq4), (33536, .box [(.c (.str ([] : Bs))), (.c (.str ([] : Bs))), (xl (.sl 159 Tq1 .nil)), x64, x64, x64, x64, xs, xb, (xl Tq2), xb, xb, x64, xb, (xo 33651), (xo 33652), (.c (.str ([] : Bs)))]), (33651, .arr0 162 false Tq3), (33652, .arr0 138 false Tq4)]⟩), (77, ⟨[(0, .c (.c (.ptr 0 0))), (2, .c (.c (.ptr 33280 0))), (3, .c (.c (.ptr 33536 0)))], [(0, .box [(xl (.int .i64 .nil)), x64]), (33280, .box [(.c (.str ([] : Bs))), (.c (.str ([] : Bs))), (xo 33283), (.c (.int .i64 0)), (.c (.int .i64 0)), (.c (.int .i64 0)), (.c (.int .i64 0)), (.c (.str ([] : Bs))), (.c (.bool false)), (xo 33290), (.c (.bool false)), (.c (.bool false)), (.c (.int .i64 0)), (.c (.bool false)), (xo 33295), (xo 33296), (.c (.str ([] : Bs)))]), (33283, .arr0 160 false (.sl 159 Tq1 .nil)), (33290, .arr0 134 false Tq2), (33295, .arr0 162 false Tq3), (33296, .arr0 138 false Tq4), (33536, .box [(.c (.str ([] : Bs))), (.c (.str ([] : Bs))), (xl (.sl 159 Tq1 .nil)), x64, x64, x64, x64, xs, xb, (xl Tq2), xb, xb, x64, xb, (xl Tq3), (xo 33652), (.c (.str ([] : Bs)))]), (33652, .arr0 138 false Tq4)]⟩), (101, ⟨[(0, .c (.c (.ptr 0 0))), (2, .c (.c (.ptr 33280 0))), (3, .c (.c (.ptr 33536 0))), (4, .i), (5, .c (.c (.ptr 34048 0)))], [(0, .box [(xl (.int .i64 .nil)), x64]), (33280, .box [(.c (.str ([] : Bs))), (.c (.str ([] : Bs))), (xo 33283), (.c (.int .i64 0)), (.c (.int .i64 0)), (.c (.int .i64 0)), (.c (.int .i64 0)), (.c (.str ([] : Bs))), (.c (.bool false)), (xo 33290), (.c (.bool false)), (.c (.bool false)), (.c (.int .i64 0)), (.c (.bool false)), (xo 33295), (xo 33296), (.c (.str ([] : Bs)))]), (33283, .arr0 160 false (.sl 159 Tq1 .nil)), (33290, .arr0 134 false Tq2), (33295, .arr0 162 false Tq3), (33296, .arr0 138 false Tq4), (33536, .box [(.c (.str ([] : Bs))), (.c (.str ([] : Bs))), (xl (.sl 159 Tq1 .nil)), x64, x64, x64, x64, xs, xb, (xl Tq2), xb, xb, x64, xb, (xl Tq3), (xo 1024576), (.c (.str ([] : Bs)))]), (34048, .box [x64, x64, x64, x64, (xl (.sl 159 Tq1 .nil))]), (1024576, .arr 138 true Tq4)]⟩), (109, ⟨[(0, .c (.c (.ptr 0 0))), (2, .c (.c (.ptr 33280 0))), (3, .c (.c (.ptr 33536 0))), (4, .i), (5, .c (.c (.ptr 34048 0)))], [(0, .box [(xl (.int .i64 .nil)), x64]), (33280, .box [(.c (.str ([] : Bs))), (.c (.str ([] : Bs))), (xo 33283), (.c (.int .i64 0)), (.c (.int .i64 0)), (.c (.int .i64 0)), (.c (.int .i64 0)), (.c (.str ([] : Bs))), (.c (.bool false)), (xo 33290), (.c (.bool false)), (.c (.bool false)), (.c (.int .i64 0)), (.c (.bool false)), (xo 33295), (xo 33296), (.c (.str ([] : Bs)))]), (33283, .arr0 160 false (.sl 159 Tq1 .nil)), (33290, .arr0 134 false Tq2), (33295, .arr0 162 false Tq3), (33296, .arr0 138 false Tq4), (33536, .box [(.c (.str ([] : Bs))), (.c (.str ([] : Bs))), (xl (.sl 159 Tq1 .nil)), x64, x64, x64, x64, xs, xb, (xl Tq2), xb, xb, x64, xb, (xl Tq3), (xo 1028672), (.c (.str ([] : Bs)))]), (34048, .box [x64, x64, x64, x64, (xl (.sl 159 Tq1 .nil))]), (1028672, .arr 138 true Tq4)]⟩), (117, ⟨[(0, .c (.c (.ptr 0 0))), (2, .c (.c (.ptr 33280 0))), (3, .c (.c (.ptr 33536 0))), (4, .i), (5, .c (.c (.ptr 34048 0)))], [(0, .box [(xl (.int .i64 .nil)), x64]), (33280, .box [(.c (.str ([] : Bs))), (.c (.str ([] : Bs))), (xo 33283), (.c (.int .i64 0)), (.c (.int .i64 0)), (.c (.int .i64 0)), (.c (.int .i64 0)), (.c (.str ([] : Bs))), (.c (.bool false)), (xo 33290), (.c (.bool false)), (.c (.bool false)), (.c (.int .i64 0)), (.c (.bool false)), (xo 33295), (xo 33296), (.c (.str ([] : Bs)))]), (33283, .arr0 160 false (.sl 159 Tq1 .nil)), (33290, .arr0 134 false Tq2), (33295, .arr0 162 false Tq3), (33296, .arr0 138 false Tq4), (33536, .box [(.c (.str ([] : Bs))), (.c (.str ([] : Bs))), (xl (.sl 159 Tq1 .nil)), x64, x64, x64, x64, xs, xb, (xl Tq2), xb, xb, x64, xb, (xl Tq3), (xo 1032768), (.c (.str ([] : Bs)))]), (34048, .box [x64, x64, x64, x64, (xl (.sl 159 Tq1 .nil))]), (1032768, .arr 138 true Tq4)]⟩)], [(82, ⟨[(0, .c (.c (.ptr 0 0))), (2, .c (.c (.ptr 33280 0))), (3, .c (.c (.ptr 33536 0))), (4, .c x64)], [(0, .box [(xl (.int .i64 .nil)), x64]), (33280, .box [(.c (.str ([] : Bs))), (.c (.str ([] : Bs))), (xo 33283), (.c (.int .i64 0)), (.c (.int .i64 0)), (.c (.int .i64 0)), (.c (.int .i64 0)), (.c (.str ([] : Bs))), (.c (.bool false)), (xo 33290), (.c (.bool false)), (.c (.bool false)), (.c (.int .i64 0)), (.c (.bool false)), (xo 33295), (xo 33296), (.c (.str ([] : Bs)))]), (33283, .arr0 160 false (.sl 159 Tq1 .nil)), (33290, .arr0 134 false Tq2), (33295, .arr0 162 false Tq3), (33296, .arr0 138 false Tq4), (33536, .box [(.c (.str ([] : Bs))), (.c (.str ([] : Bs))), (xl (.sl 159 Tq1 .nil)), x64, x64, x64, x64, xs, xb, (xl Tq2), xb, xb, x64, xb, (xl Tq3), (xo 1020480), (.c (.str ([] : Bs)))]), (1020480, .arr 138 true Tq4)]⟩, [(1, ⟨[(2, .c (.c (.ptr 33280 0))), (3, .c (.c (.ptr 33536 0)))], [(0, .box [(xl (.int .i64 .nil)), x64]), (33280, .box [(.c (.str ([] : Bs))), (.c (.str ([] : Bs))), (xo 33283), (.c (.int .i64 0)), (.c (.int .i64 0)), (.c (.int .i64 0)), (.c (.int .i64 0)), (.c (.str ([] : Bs))), (.c (.bool false)), (xo 33290), (.c (.bool false)), (.c (.bool false)), (.c (.int .i64 0)), (.c (.bool false)), (xo 33295), (xo 33296), (.c (.str ([] : Bs)))]), (33283, .arr0 160 false (.sl 159 Tq1 .nil)), (33290, .arr0 134 false Tq2), (33295, .arr0 162 false Tq3), (33296, .arr0 138 false Tq4), (33536, .box [(.c (.str ([] : Bs))), (.c (.str ([] : Bs))), (xl (.sl 159 Tq1 .nil)), x64, x64, x64, x64, xs, xb, (xl Tq2), xb, xb, x64, xb, (xl Tq3), (xo 1036864), (.c (.str ([] : Bs)))]), (1036864, .arr 138 true Tq4)]⟩)])]⟩
noncomputable def made_List_S (N : Nat) : Sig := .of [Sq6] [Sq10] (fun a => made_List N a)
theorem made_List_spec (N : Nat) : Spec Tryz.prog 50 (made_List_S N) := spec_of_exe (C := ctx Tryz.prog [(10, made_Deck_Next_S N), (67, made_Authority_S N), (68, made_Time_S N), (69, made_General_S N), (70, made_points_S N), (71, ref14_FindEntry_S N)] made_List_ns) (L := made_List_L) (fn := Tryz.f50) (N := N) (ctx_ok ⟨made_Deck_Next_spec N, made_Authority_spec N, made_Time_spec N, made_General_spec N, made_points_spec N, ref14_FindEntry_spec N, trivial⟩) (by kernel_rfl) (by kernel_rfl) (fun a => by kernel_rfl)

def ref14_CheckInfo_ns : List (Nat × Nrm) := [(3, ⟨[], [], [], [], []⟩), (93, ⟨[1], [], [], [], []⟩), (138, ⟨[1, 134, 135, 136], [], [], [], []⟩)]
def ref14_CheckInfo_L : Lk := ⟨[(93, ⟨[(1, .c (.c (.ptr 33024 0)))], [(33024, .box [xb, xb, x64, x64, (xl (.str .nil)), (xl (.str .nil)), (xl (.str (.str .nil))), x64, x64, x64, (xl Tq2), xb, (xl Tq2), (xl Tq2), xs, xs, (xl Tq3), (xl Tq3), (xl Tq5)])]⟩)], [(138, ⟨[(1, .c (.c (.ptr 33024 0))), (134, .i), (135, .i), (136, .c x64)], [(33024, .box [xb, xb, x64, x64, (xl (.str .nil)), (xl (.str .nil)), (xl (.str (.str .nil))), x64, x64, x64, (xl Tq2), xb, (xl Tq2), (xl Tq2), xs, xs, (xl Tq3), (xl Tq3), (xl Tq5)])]⟩, [(0, ⟨[], []⟩)])]⟩
noncomputable def ref14_CheckInfo_S (N : Nat) : Sig := .of [Sq17] [.cell false (.int .i64)] (fun a => ref14_CheckInfo N a)
theorem ref14_CheckInfo_spec (N : Nat) : Spec Tryz.prog 121 (ref14_CheckInfo_S N) := spec_of_exe (C := ctx Tryz.prog [(143, ref14_skip_S N), (144, ref14_checkOIDs_S N), (145, ref14_checkMappings_S N), (133, ref14_checkNames_S N), (146, ref07_CheckSubtrees_S N), (105, ref14_CheckPoints_S N), (147, ref14_Count_S N), (148, ref01_ValidOID_S N), (149, ref14_Known_S N), (150, ref14_Find_S N), (56, ref01_Check_S N)] ref14_CheckInfo_ns) (L := ref14_CheckInfo_L) (fn := Tryz.f121) (N := N) (ctx_ok ⟨ref14_skip_spec N, ref14_checkOIDs_spec N, ref14_checkMappings_spec N, ref14_checkNames_spec N, ref07_CheckSubtrees_spec N, ref14_CheckPoints_spec N, ref14_Count_spec N, ref01_ValidOID_spec N, ref14_Known_spec N, ref14_Find_spec N, ref01_Check_spec N, trivial⟩) (by kernel_rfl) (by kernel_rfl) (fun a => by kernel_rfl)

noncomputable def ref07_EncodeSubtrees_S (N : Nat) : Sig := .of [Sq16] [.cell false .str, .cell false (.int .i64)] (fun a => ref07_EncodeSubtrees N a)
theorem ref07_EncodeSubtrees_spec (N : Nat) : Spec Tryz.prog 152 (ref07_EncodeSubtrees_S N) := spec_of_exe (C := ctx Tryz.prog [(146, ref07_CheckSubtrees_S N), (163, ref07_part_S N), (28, ref07_Fit_S N)] []) (L := ⟨[], []⟩) (fn := Tryz.f152) (N := N) (ctx_ok ⟨ref07_CheckSubtrees_spec N, ref07_part_spec N, ref07_Fit_spec N, trivial⟩) (by kernel_rfl) (by kernel_rfl) (fun a => by kernel_rfl)

end Go.Proofs.YtegnjlmdppobmaaGreat.Vm

/-
  The functions of the program compute what is printed of them.
-/
namespace Go.Proofs.YtegnjlmdppobmaaGreat.Vm
open Go.Proofs
def ref14_entry_ns : List (Nat × Nrm) := [(17, ⟨[2, 3, 5], [([5], 173, Tq5, 1000000)], [], [(37888, 1000000)], []⟩), (29, ⟨[2, 3, 5], [], [], [(41472, 1004096), (1000000, 1004096)], []⟩), (37, ⟨[2, 5], [], [], [(45056, 1008192), (1004096, 1008192)], []⟩), (49, ⟨[2, 8], [], [], [], []⟩)]
def ref14_entry_L : Lk := ⟨[(17, ⟨[(2, .c (.c (.ptr 33280 0))), (3, .c (.c (.ptr 33536 0))), (5, .c (xo 1000000))], [(33280, .box [x64, x64, x64, x64, (xl (.sl 159 Tq1 .nil))]), (33536, .box [(xl (.sl 159 Tq1 .nil))]), (1000000, .arr 173 false Tq5)]⟩), (29, ⟨[(2, .c (.c (.ptr 33280 0))), (3, .c (.c (.ptr 33536 0))), (5, .c (xo 1004096))], [(33280, .box [x64, x64, x64, x64, (xl (.sl 159 Tq1 .nil))]), (33536, .box [(xl (.sl 159 Tq1 .nil))]), (1004096, .arr 173 false Tq5)]⟩), (37, ⟨[(2, .c (.c (.ptr 33280 0))), (5, .c (xo 1008192))], [(33280, .box [x64, x64, x64, x64, (xl (.sl 159 Tq1 .nil))]), (1008192, .arr 173 false Tq5)]⟩), (49, ⟨[(2, .c (.c (.ptr 33280 0))), (8, .c xs)], [(33280, .box [x64, x64, x64, x64, (xl (.sl 159 Tq1 .nil))])]⟩)], []⟩
noncomputable def ref14_entry_S (N : Nat) : Sig := .of [Sq14, Sq7] [.cell false .str] (fun a => ref14_entry N a.1 a.2)
theorem ref14_entry_spec (N : Nat) : Spec Tryz.prog 85 (ref14_entry_S N) := spec_of_exe (C := ctx Tryz.prog [(88, ref14_number_S N), (84, ref01_EncodeTime_S N), (91, ref07_MatchName_S N), (111, ref14_directory_S N), (35, ref07_Wrap_S N), (112, ref14_EncodeExtensions_S N)] ref14_entry_ns) (L := ref14_entry_L) (fn := Tryz.f85) (N := N) (ctx_ok ⟨ref14_number_spec N, ref01_EncodeTime_spec N, ref07_MatchName_spec N, ref14_directory_spec N, ref07_Wrap_spec N, ref14_EncodeExtensions_spec N, trivial⟩) (by kernel_rfl) (by kernel_rfl) (fun a => by kernel_rfl)

def ref14_EncodePoints_ns : List (Nat × Nrm) := [(3, ⟨[5], [], [], [], []⟩), (34, ⟨[5, 17, 18, 19], [], [], [], []⟩), (53, ⟨[5, 7, 8, 17, 18, 19], [], [], [], []⟩)]
def ref14_EncodePoints_L : Lk := ⟨[(53, ⟨[(5, .i), (7, .c (.c (.ptr 34560 0))), (8, .c xs), (17, .i), (18, .i), (19, .i)], [(34560, .box [(xl Tq2), x64, xb, (xl (.sl 159 Tq1 .nil))])]⟩)], [(34, ⟨[(5, .c xs), (17, .i), (18, .i), (19, .c x64)], []⟩, [(0, ⟨[(5, .c xs)], []⟩)])]⟩
noncomputable def ref14_EncodePoints_S (N : Nat) : Sig := .of [.cell false (.sl 162 Tq3)] [.cell false .str, .cell false (.int .i64)] (fun a => ref14_EncodePoints N a)
theorem ref14_EncodePoints_spec (N : Nat) : Spec Tryz.prog 116 (ref14_EncodePoints_S N) := spec_of_exe (C := ctx Tryz.prog [(105, ref14_CheckPoints_S N), (111, ref14_directory_S N), (35, ref07_Wrap_S N), (113, ref14_fullNames_S N), (115, ref14_flags_S N), (28, ref07_Fit_S N)] ref14_EncodePoints_ns) (L := ref14_EncodePoints_L) (fn := Tryz.f116) (N := N) (ctx_ok ⟨ref14_CheckPoints_spec N, ref14_directory_spec N, ref07_Wrap_spec N, ref14_fullNames_spec N, ref14_flags_spec N, ref07_Fit_spec N, trivial⟩) (by kernel_rfl) (by kernel_rfl) (fun a => by kernel_rfl)

noncomputable def ref14_CheckCert_S (N : Nat) : Sig := .of [Sq18] [.cell false (.int .i64)] (fun a => ref14_CheckCert N a)
theorem ref14_CheckCert_spec (N : Nat) : Spec Tryz.prog 92 (ref14_CheckCert_S N) := spec_of_exe (C := ctx Tryz.prog [(103, ref07_CheckName_S N), (120, ref11_CheckKey_S N), (121, ref14_CheckInfo_S N)] []) (L := ⟨[], []⟩) (fn := Tryz.f92) (N := N) (ctx_ok ⟨ref07_CheckName_spec N, ref11_CheckKey_spec N, ref14_CheckInfo_spec N, trivial⟩) (by kernel_rfl) (by kernel_rfl) (fun a => by kernel_rfl)

end Go.Proofs.YtegnjlmdppobmaaGreat.Vm

/-
  The functions of the program compute what is printed of them.
-/
namespace Go.Proofs.YtegnjlmdppobmaaGreat.Vm
open Go.Proofs
def ref14_listExtensions_ns : List (Nat × Nrm) := [(17, ⟨[1, 4], [([4], 173, Tq5, 1000000)], [], [(37888, 1000000)], []⟩), (29, ⟨[1, 4], [], [], [(39680, 1004096), (42240, 1004096)], []⟩), (41, ⟨[1, 4], [], [], [(49664, 1008192), (1004096, 1008192)], []⟩)]
def ref14_listExtensions_L : Lk := ⟨[(17, ⟨[(1, .c (.c (.ptr 33024 0))), (4, .c (xo 1000000))], [(33024, .box [xs, xs, (xl (.sl 159 Tq1 .nil)), x64, x64, x64, x64, xs, xb, (xl Tq2), xb, xb, x64, xb, (xl Tq3), (xl Tq4), xs]), (1000000, .arr 173 false Tq5)]⟩), (29, ⟨[(1, .c (.c (.ptr 33024 0))), (4, .c (xo 1004096))], [(33024, .box [xs, xs, (xl (.sl 159 Tq1 .nil)), x64, x64, x64, x64, xs, xb, (xl Tq2), xb, xb, x64, xb, (xl Tq3), (xl Tq4), xs]), (1004096, .arr 173 false Tq5)]⟩), (41, ⟨[(1, .c (.c (.ptr 33024 0))), (4, .c (xo 1008192))], [(33024, .box [xs, xs, (xl (.sl 159 Tq1 .nil)), x64, x64, x64, x64, xs, xb, (xl Tq2), xb, xb, x64, xb, (xl Tq3), (xl Tq4), xs]), (1008192, .arr 173 false Tq5)]⟩)], []⟩
noncomputable def ref14_listExtensions_S (N : Nat) : Sig := .of [Sq10] [.cell false (.sl 173 Tq5), .cell false (.int .i64)] (fun a => ref14_listExtensions N a)
theorem ref14_listExtensions_spec (N : Nat) : Spec Tryz.prog 86 (ref14_listExtensions_S N) := spec_of_exe (C := ctx Tryz.prog [(35, ref07_Wrap_S N), (88, ref14_number_S N), (113, ref14_fullNames_S N), (114, ref14_boolean_S N), (115, ref14_flags_S N), (116, ref14_EncodePoints_S N)] ref14_listExtensions_ns) (L := ref14_listExtensions_L) (fn := Tryz.f86) (N := N) (ctx_ok ⟨ref07_Wrap_spec N, ref14_number_spec N, ref14_fullNames_spec N, ref14_boolean_spec N, ref14_flags_spec N, ref14_EncodePoints_spec N, trivial⟩) (by kernel_rfl) (by kernel_rfl) (fun a => by kernel_rfl)

def ref14_EncodeInfo_ns : List (Nat × Nrm) := [(3, ⟨[1, 5, 7], [], [], [], []⟩), (11, ⟨[1, 5, 10], [], [], [], []⟩), (19, ⟨[1, 5, 13], [], [], [], []⟩), (27, ⟨[1, 5], [], [], [], []⟩), (37, ⟨[1, 5, 6], [], [], [], []⟩), (41, ⟨[1, 5], [([5], 173, Tq5, 1000000)], [], [(45312, 1000000)], []⟩), (49, ⟨[1, 5], [], [], [(47872, 1008192), (1000000, 1008192)], []⟩), (62, ⟨[1, 5, 7, 65, 66, 67], [], [], [], []⟩), (81, ⟨[1, 5], [], [], [(53760, 1012288), (1008192, 1012288)], []⟩), (94, ⟨[1, 5, 10, 88, 89, 90], [], [], [], []⟩), (113, ⟨[1, 5], [], [], [(60160, 1024576), (1012288, 1024576)], []⟩), (126, ⟨[1, 5, 13, 113, 114, 115], [], [], [], []⟩), (145, ⟨[1, 5], [], [], [(67584, 1036864), (1024576, 1036864)], []⟩), (161, ⟨[1, 5, 16], [], [], [], []⟩), (169, ⟨[1, 5, 16], [], [], [], []⟩), (173, ⟨[1, 5], [], [], [(75008, 1049152), (1036864, 1049152)], []⟩), (181, ⟨[1, 5], [], [], [(77568, 1061440), (1049152, 1061440)], []⟩), (193, ⟨[1, 5], [], [], [(81920, 1065536), (1061440, 1065536)], []⟩), (213, ⟨[1, 5], [], [], [(86016, 1069632), (1065536, 1069632)], []⟩), (221, ⟨[1, 5], [], [], [(88832, 1073728), (1069632, 1073728)], []⟩), (229, ⟨[1, 5], [], [], [(92160, 1077824), (1073728, 1077824)], []⟩), (234, ⟨[1, 5, 237, 238, 239], [], [], [(100096, 1077824)], []⟩)]
def ref14_EncodeInfo_L : Lk := ⟨[(37, ⟨[(1, .c (.c (.ptr 33024 0))), (5, .c x0), (6, .c xs)], [(33024, .box [xb, xb, x64, x64, (xl (.str .nil)), (xl (.str .nil)), (xl (.str (.str .nil))), x64, x64, x64, (xl Tq2), xb, (xl Tq2), (xl Tq2), xs, xs, (xl Tq3), (xl Tq3), (xl Tq5)])]⟩), (41, ⟨[(1, .c (.c (.ptr 33024 0))), (5, .c (xo 1000000))], [(33024, .box [xb, xb, x64, x64, (xl (.str .nil)), (xl (.str .nil)), (xl (.str (.str .nil))), x64, x64, x64, (xl Tq2), xb, (xl Tq2), (xl Tq2), xs, xs, (xl Tq3), (xl Tq3), (xl Tq5)]), (1000000, .arr 173 false Tq5)]⟩), (49, ⟨[(1, .c (.c (.ptr 33024 0))), (5, .c (xo 1008192))], [(33024, .box [xb, xb, x64, x64, (xl (.str .nil)), (xl (.str .nil)), (xl (.str (.str .nil))), x64, x64, x64, (xl Tq2), xb, (xl Tq2), (xl Tq2), xs, xs, (xl Tq3), (xl Tq3), (xl Tq5)]), (1008192, .arr 173 false Tq5)]⟩), (81, ⟨[(1, .c (.c (.ptr 33024 0))), (5, .c (xo 1012288))], [(33024, .box [xb, xb, x64, x64, (xl (.str .nil)), (xl (.str .nil)), (xl (.str (.str .nil))), x64, x64, x64, (xl Tq2), xb, (xl Tq2), (xl Tq2), xs, xs, (xl Tq3), (xl Tq3), (xl Tq5)]), (1012288, .arr 173 false Tq5)]⟩), (113, ⟨[(1, .c (.c (.ptr 33024 0))), (5, .c (xo 1024576))], [(33024, .box [xb, xb, x64, x64, (xl (.str .nil)), (xl (.str .nil)), (xl (.str (.str .nil))), x64, x64, x64, (xl Tq2), xb, (xl Tq2), (xl Tq2), xs, xs, (xl Tq3), (xl Tq3), (xl Tq5)]), (1024576, .arr 173 false Tq5)]⟩), (145, ⟨[(1, .c (.c (.ptr 33024 0))), (5, .c (xo 1036864))], [(33024, .box [xb, xb, x64, x64, (xl (.str .nil)), (xl (.str .nil)), (xl (.str (.str .nil))), x64, x64, x64, (xl Tq2), xb, (xl Tq2), (xl Tq2), xs, xs, (xl Tq3), (xl Tq3), (xl Tq5)]), (1036864, .arr 173 false Tq5)]⟩), (161, ⟨[(1, .c (.c (.ptr 33024 0))), (5, .c (xo 1036864)), (16, .c xs)], [(33024, .box [xb, xb, x64, x64, (xl (.str .nil)), (xl (.str .nil)), (xl (.str (.str .nil))), x64, x64, x64, (xl Tq2), xb, (xl Tq2), (xl Tq2), xs, xs, (xl Tq3), (xl Tq3), (xl Tq5)]), (1036864, .arr 173 false Tq5)]⟩), (169, ⟨[(1, .c (.c (.ptr 33024 0))), (5, .c (xo 1036864)), (16, .c xs)], [(33024, .box [xb, xb, x64, x64, (xl (.str .nil)), (xl (.str .nil)), (xl (.str (.str .nil))), x64, x64, x64, (xl Tq2), xb, (xl Tq2), (xl Tq2), xs, xs, (xl Tq3), (xl Tq3), (xl Tq5)]), (1036864, .arr 173 false Tq5)]⟩), (173, ⟨[(1, .c (.c (.ptr 33024 0))), (5, .c (xo 1049152))], [(33024, .box [xb, xb, x64, x64, (xl (.str .nil)), (xl (.str .nil)), (xl (.str (.str .nil))), x64, x64, x64, (xl Tq2), xb, (xl Tq2), (xl Tq2), xs, xs, (xl Tq3), (xl Tq3), (xl Tq5)]), (1049152, .arr 173 false Tq5)]⟩), (181, ⟨[(1, .c (.c (.ptr 33024 0))), (5, .c (xo 1061440))], [(33024, .box [xb, xb, x64, x64, (xl (.str .nil)), (xl (.str .nil)), (xl (.str (.str .nil))), x64, x64, x64, (xl Tq2), xb, (xl Tq2), (xl Tq2), xs, xs, (xl Tq3), (xl Tq3), (xl Tq5)]), (1061440, .arr 173 false Tq5)]⟩), (193, ⟨[(1, .c (.c (.ptr 33024 0))), (5, .c (xo 1065536))], [(33024, .box [xb, xb, x64, x64, (xl (.str .nil)), (xl (.str .nil)), (xl (.str (.str .nil))), x64, x64, x64, (xl Tq2), xb, (xl Tq2), (xl Tq2), xs, xs, (xl Tq3), (xl Tq3), (xl Tq5)]), (1065536, .arr 173 false Tq5)]⟩), (213, ⟨[(1, .c (.c (.ptr 33024 0))), (5, .c (xo 1069632))], [(33024, .box [xb, xb, x64, x64, (xl (.str .nil)), (xl (.str .nil)), (xl (.str (.str .nil))), x64, x64, x64, (xl Tq2), xb, (xl Tq2), (xl Tq2), xs, xs, (xl Tq3), (xl Tq3), (xl Tq5)]), (1069632, .arr 173 false Tq5)]⟩), (221, ⟨[(1, .c (.c (.ptr 33024 0))), (5, .c (xo 1073728))], [(33024, .box [xb, xb, x64, x64, (xl (.str .nil)), (xl (.str .nil)), (xl (.str (.str .nil))), x64, x64, x64, (xl Tq2), xb, (xl Tq2), (xl Tq2), xs, xs, (xl Tq3), (xl Tq3), (xl Tq5)]), (1073728, .arr 173 false Tq5)]⟩), (229, ⟨[(1, .c (.c (.ptr 33024 0))), (5, .c (xo 1077824))], [(33024, .box [xb, xb, x64, x64, (xl (.str .nil)), (xl (.str .nil)), (xl (.str (.str .nil))), x64, x64, x64, (xl Tq2), xb, (xl Tq2), (xl Tq2), xs, xs, (xl Tq3), (xl Tq3), (xl Tq5)]), (1077824, .arr 173 false Tq5)]⟩)], [(62, ⟨[(1, .c (.c (.ptr 33024 0))), (5, .c (xo 1008192)), (7, .c xs), (65, .i), (66, .i), (67, .c x64)], [(33024, .box [xb, xb, x64, x64, (xl (.str .nil)), (xl (.str .nil)), (xl (.str (.str .nil))), x64, x64, x64, (xl Tq2), xb, (xl Tq2), (xl Tq2), xs, xs, (xl Tq3), (xl Tq3), (xl Tq5)]), (1008192, .arr 173 false Tq5)]⟩, [(0, ⟨[(1, .c (.c (.ptr 33024 0))), (5, .c (xo 1008192)), (7, .c xs)], [(33024, .box [xb, xb, x64, x64, (xl (.str .nil)), (xl (.str .nil)), (xl (.str (.str .nil))), x64, x64, x64, (xl Tq2), xb, (xl Tq2), (xl Tq2), xs, xs, (xl Tq3), (xl Tq3), (xl Tq5)]), (1008192, .arr 173 false Tq5)]⟩)]), (94, ⟨[(1, .c (.c (.ptr 33024 0))), (5, .c (xo 1012288)), (10, .c xs), (88, .i), (89, .i), (90, .c x64)], [(33024, .box [xb, xb, x64, x64, (xl (.str .nil)), (xl (.str .nil)), (xl (.str (.str .nil))), x64, x64, x64, (xl Tq2), xb, (xl Tq2), (xl Tq2), xs, xs, (xl Tq3), (xl Tq3), (xl Tq5)]), (1012288, .arr 173 false Tq5)]⟩, [(2, ⟨[(1, .c (.c (.ptr 33024 0))), (5, .c (xo 1012288)), (10, .c xs)], [(33024, .box [xb, xb, x64, x64, (xl (.str .nil)), (xl (.str .nil)), (xl (.str (.str .nil))), x64, x64, x64, (xl Tq2), xb, (xl Tq2), (xl Tq2), xs, xs, (xl Tq3), (xl Tq3), (xl Tq5)]), (1012288, .arr 173 false Tq5)]⟩)]), (126, ⟨[(1, .c (.c (.ptr 33024 0))), (5, .c (xo 1024576)), (13, .c xs), (113, .i), (114, .i), (115, .c x64)], [(33024, .box [xb, xb, x64, x64, (xl (.str .nil)), (xl (.str .nil)), (xl (.str (.str .nil))), x64, x64, x64, (xl Tq2), xb, (xl Tq2), (xl Tq2), xs, xs, (xl Tq3), (xl Tq3), (xl Tq5)]), (1024576, .arr 173 false Tq5)]⟩, [(4, ⟨[(1, .c (.c (.ptr 33024 0))), (5, .c (xo 1024576)), (13, .c xs)], [(33024, .box [xb, xb, x64, x64, (xl (.str .nil)), (xl (.str .nil)), (xl (.str (.str .nil))), x64, x64, x64, (xl Tq2), xb, (xl Tq2), (xl Tq2), xs, xs, (xl Tq3), (xl Tq3), (xl Tq5)]), (1024576, .arr 173 false Tq5)]⟩)]), (234, ⟨[(1, .c (.c (.ptr 33024 0))), (5, .c (xo 1077824)), (237, .c (xo 93440)), (238, .i), (239, .c x64)], [(33024, .box [xb, xb, x64, x64, (xl (.str .nil)), (xl (.str .nil)), (xl (.str (.str .nil))), x64, x64, x64, (xl Tq2), xb, (xl Tq2), (xl Tq2), xs, xs, (xl Tq3), (xl Tq3), (xl Tq5)]), (93440, .arr 102 false (.sl 162 Tq3 .nil)), (1077824, .arr 173 false Tq5)]⟩, [(6, ⟨[(1, .c (.c (.ptr 33024 0))), (5, .c (xo 1077824))], [(33024, .box [xb, xb, x64, x64, (xl (.str .nil)), (xl (.str .nil)), (xl (.str (.str .nil))), x64, x64, x64, (xl Tq2), xb, (xl Tq2), (xl Tq2), xs, xs, (xl Tq3), (xl Tq3), (xl Tq5)]), (1077824, .arr 173 false Tq5)]⟩)])]⟩
noncomputable def ref14_EncodeInfo_S (N : Nat) : Sig := .of [Sq17] [.cell false (.sl 173 Tq5), .cell false (.int .i64)] (fun a => ref14_EncodeInfo N a)
theorem ref14_EncodeInfo_spec (N : Nat) : Spec Tryz.prog 123 (ref14_EncodeInfo_S N) := spec_of_exe (C := ctx Tryz.prog [(121, ref14_CheckInfo_S N), (114, ref14_boolean_S N), (88, ref14_number_S N), (35, ref07_Wrap_S N), (115, ref14_flags_S N), (118, ref07_OID_S N), (137, ref07_EncodeList_S N), (152, ref07_EncodeSubtrees_S N), (116, ref14_EncodePoints_S N)] ref14_EncodeInfo_ns) (L := ref14_EncodeInfo_L) (fn := Tryz.f123) (N := N) (ctx_ok ⟨ref14_CheckInfo_spec N, ref14_boolean_spec N, ref14_number_spec N, ref07_Wrap_spec N, ref14_flags_spec N, ref07_OID_spec N, ref07_EncodeList_spec N, ref07_EncodeSubtrees_spec N, ref14_EncodePoints_spec N, trivial⟩) (by kernel_rfl) (by kernel_rfl) (fun a => by kernel_rfl)

end Go.Proofs.YtegnjlmdppobmaaGreat.Vm

/-
  The functions of the program compute what is printed of them.
-/
namespace Go.Proofs.YtegnjlmdppobmaaGreat.Vm
open Go.Proofs
def ref14_EncodeListTBS_ns : List (Nat × Nrm) := [(3, ⟨[1, 5, 7, 9, 11], [], [], [], []⟩), (42, ⟨[1, 5, 7, 9, 11, 12, 46, 47, 48], [], [], [], []⟩), (81, ⟨[1, 5, 7, 9, 11], [], [], [], []⟩)]
def ref14_EncodeListTBS_L : Lk := ⟨[(81, ⟨[(1, .c (.c (.ptr 33024 0))), (5, .i), (7, .i), (9, .i), (11, .c xs)], [(33024, .box [xs, xs, (xl (.sl 159 Tq1 .nil)), x64, x64, x64, x64, xs, xb, (xl Tq2), xb, xb, x64, xb, (xl Tq3), (xl Tq4), xs])]⟩)], [(42, ⟨[(1, .c (.c (.ptr 33024 0))), (5, .i), (7, .i), (9, .i), (11, .c xs), (12, .c (.c (.ptr 35840 0))), (46, .i), (47, .i), (48, .c x64)], [(33024, .box [xs, xs, (xl (.sl 159 Tq1 .nil)), x64, x64, x64, x64, xs, xb, (xl Tq2), xb, xb, x64, xb, (xl Tq3), (xl Tq4), xs]), (35840, .box [(xl (.sl 159 Tq1 .nil))])]⟩, [(0, ⟨[(1, .c (.c (.ptr 33024 0))), (5, .i), (7, .i), (9, .i), (11, .c xs)], [(33024, .box [xs, xs, (xl (.sl 159 Tq1 .nil)), x64, x64, x64, x64, xs, xb, (xl Tq2), xb, xb, x64, xb, (xl Tq3), (xl Tq4), xs])]⟩)])]⟩
noncomputable def ref14_EncodeListTBS_S (N : Nat) : Sig := .of [Sq10] [.cell false .str, .cell false (.int .i64)] (fun a => ref14_EncodeListTBS N a)
theorem ref14_EncodeListTBS_spec (N : Nat) : Spec Tryz.prog 65 (ref14_EncodeListTBS_S N) := spec_of_exe (C := ctx Tryz.prog [(82, ref14_CheckList_S N), (83, ref07_EncodeName_S N), (84, ref01_EncodeTime_S N), (85, ref14_entry_S N), (28, ref07_Fit_S N), (86, ref14_listExtensions_S N), (87, ref14_wrapped_S N), (88, ref14_number_S N), (89, ref14_Algorithm_S N)] ref14_EncodeListTBS_ns) (L := ref14_EncodeListTBS_L) (fn := Tryz.f65) (N := N) (ctx_ok ⟨ref14_CheckList_spec N, ref07_EncodeName_spec N, ref01_EncodeTime_spec N, ref14_entry_spec N, ref07_Fit_spec N, ref14_listExtensions_spec N, ref14_wrapped_spec N, ref14_number_spec N, ref14_Algorithm_spec N, trivial⟩) (by kernel_rfl) (by kernel_rfl) (fun a => by kernel_rfl)

noncomputable def ref14_extensions_S (N : Nat) : Sig := .of [.cell false (.int .i64), Sq17] [.cell false .str, .cell false (.int .i64)] (fun a => ref14_extensions N a.1 a.2)
theorem ref14_extensions_spec (N : Nat) : Spec Tryz.prog 94 (ref14_extensions_S N) := spec_of_exe (C := ctx Tryz.prog [(123, ref14_EncodeInfo_S N), (87, ref14_wrapped_S N)] []) (L := ⟨[], []⟩) (fn := Tryz.f94) (N := N) (ctx_ok ⟨ref14_EncodeInfo_spec N, ref14_wrapped_spec N, trivial⟩) (by kernel_rfl) (by kernel_rfl) (fun a => by kernel_rfl)

end Go.Proofs.YtegnjlmdppobmaaGreat.Vm

/-
  The functions of the program compute what is printed of them.
-/
namespace Go.Proofs.YtegnjlmdppobmaaGreat.Vm
open Go.Proofs
noncomputable def made_SealedList_S (N : Nat) : Sig := .of [Sq10] [.cell false .str] (fun a => made_SealedList N a)
theorem made_SealedList_spec (N : Nat) : Spec Tryz.prog 49 (made_SealedList_S N) := spec_of_exe (C := ctx Tryz.prog [(65, ref14_EncodeListTBS_S N), (66, ref14_Seal_S N)] []) (L := ⟨[], []⟩) (fn := Tryz.f49) (N := N) (ctx_ok ⟨ref14_EncodeListTBS_spec N, ref14_Seal_spec N, trivial⟩) (by kernel_rfl) (by kernel_rfl) (fun a => by kernel_rfl)

noncomputable def ref14_EncodeCertTBS_S (N : Nat) : Sig := .of [Sq18] [.cell false .str, .cell false (.int .i64)] (fun a => ref14_EncodeCertTBS N a)
theorem ref14_EncodeCertTBS_spec (N : Nat) : Spec Tryz.prog 72 (ref14_EncodeCertTBS_S N) := spec_of_exe (C := ctx Tryz.prog [(92, ref14_CheckCert_S N), (83, ref07_EncodeName_S N), (84, ref01_EncodeTime_S N), (93, ref14_EncodeKey_S N), (94, ref14_extensions_S N), (88, ref14_number_S N), (35, ref07_Wrap_S N), (89, ref14_Algorithm_S N), (28, ref07_Fit_S N)] []) (L := ⟨[], []⟩) (fn := Tryz.f72) (N := N) (ctx_ok ⟨ref14_CheckCert_spec N, ref07_EncodeName_spec N, ref01_EncodeTime_spec N, ref14_EncodeKey_spec N, ref14_extensions_spec N, ref14_number_spec N, ref07_Wrap_spec N, ref14_Algorithm_spec N, ref07_Fit_spec N, trivial⟩) (by kernel_rfl) (by kernel_rfl) (fun a => by kernel_rfl)

end Go.Proofs.YtegnjlmdppobmaaGreat.Vm

/-
  The functions of the program compute what is printed of them.
-/
namespace Go.Proofs.YtegnjlmdppobmaaGreat.Vm
open Go.Proofs
noncomputable def made_Sealed_S (N : Nat) : Sig := .of [Sq18] [.cell false .str] (fun a => made_Sealed N a)
theorem made_Sealed_spec (N : Nat) : Spec Tryz.prog 51 (made_Sealed_S N) := spec_of_exe (C := ctx Tryz.prog [(72, ref14_EncodeCertTBS_S N), (66, ref14_Seal_S N)] []) (L := ⟨[], []⟩) (fn := Tryz.f51) (N := N) (ctx_ok ⟨ref14_EncodeCertTBS_spec N, ref14_Seal_spec N, trivial⟩) (by kernel_rfl) (by kernel_rfl) (fun a => by kernel_rfl)

end Go.Proofs.YtegnjlmdppobmaaGreat.Vm

/-
  The functions of the program compute what is printed of them.
-/
namespace Go.Proofs.YtegnjlmdppobmaaGreat.Vm
open Go.Proofs
noncomputable def law20_item_S (N : Nat) : Sig := .of [Sq6] [.cell false .str] (fun a => law20_item N a)
theorem law20_item_spec (N : Nat) : Spec Tryz.prog 23 (law20_item_S N) := spec_of_exe (C := ctx Tryz.prog [(10, made_Deck_Next_S N), (8, made_New_S N), (50, made_List_S N), (49, made_SealedList_S N), (52, made_Cert_S N), (51, made_Sealed_S N)] []) (L := ⟨[], []⟩) (fn := Tryz.f23) (N := N) (ctx_ok ⟨made_Deck_Next_spec N, made_New_spec N, made_List_spec N, made_SealedList_spec N, made_Cert_spec N, made_Sealed_spec N, trivial⟩) (by kernel_rfl) (by kernel_rfl) (fun a => by kernel_rfl)

end Go.Proofs.YtegnjlmdppobmaaGreat.Vm

/-
  The functions of the program compute what is printed of them.
-/
namespace Go.Proofs.YtegnjlmdppobmaaGreat.Vm
open Go.Proofs
def law20_made_ns : List (Nat × Nrm) := [(3, ⟨[0, 2, 3], [], [], [(33637, 1004096), (1000000, 1004096)], []⟩), (11, ⟨[0, 2, 3], [], [], [(33638, 1012288), (1008192, 1012288)], []⟩), (14, ⟨[0, 2, 3, 4], [], [], [(33637, 1000000), (37888, 1000000)], []⟩), (19, ⟨[2, 3], [], [], [(33639, 1024576), (1016384, 1024576)], []⟩), (30, ⟨[0, 2, 3, 5], [], [], [(33638, 1008192), (41216, 1008192)], []⟩), (46, ⟨[0, 2, 3, 6], [], [], [(33639, 1016384), (47616, 1016384)], []⟩), (77, ⟨[0, 2, 3, 6, 7], [], [], [(33639, 1020480), (1016384, 1020480)], []⟩)]
def law20_made_L : Lk := ⟨[(77, ⟨[(0, .c (.c (.ptr 0 0))), (2, .c (.c (.ptr 33280 0))), (3, .c (.c (.ptr 33536 0))), (6, .i), (7, .c (.c (.ptr 34560 0)))], [(0, .box [(xl (.int .i64 .nil)), x64]), (33280, .box [(xo 33281), (xo 33282), (xo 33283)]), (33281, .arr0 9 false (.str .nil)), (33282, .arr0 9 false (.str .nil)), (33283, .arr0 34 false (.str (.str .nil))), (33536, .box [(xo 1004096), (xo 1012288), (xo 1020480)]), (34560, .box [xs, xs]), (1004096, .arr 9 false (.str .nil)), (1012288, .arr 9 false (.str .nil)), (1020480, .arr 34 false (.str (.str .nil)))]⟩)], [(14, ⟨[(0, .c (.c (.ptr 0 0))), (2, .c (.c (.ptr 33280 0))), (3, .c (.c (.ptr 33536 0))), (4, .c x64)], [(0, .box [(xl (.int .i64 .nil)), x64]), (33280, .box [(xo 33281), (xo 33282), (xo 33283)]), (33281, .arr0 9 false (.str .nil)), (33282, .arr0 9 false (.str .nil)), (33283, .arr0 34 false (.str (.str .nil))), (33536, .box [(xo 1000000), (xo 33638), (xo 33639)]), (33638, .arr0 9 false (.str .nil)), (33639, .arr0 34 false (.str (.str .nil))), (1000000, .arr 9 false (.str .nil))]⟩, [(0, ⟨[(0, .c (.c (.ptr 0 0))), (2, .c (.c (.ptr 33280 0))), (3, .c (.c (.ptr 33536 0)))], [(0, .box [(xl (.int .i64 .nil)), x64]), (33280, .box [(xo 33281), (xo 33282), (xo 33283)]), (33281, .arr0 9 false (.str .nil)), (33282, .arr0 9 false (.str .nil)), (33283, .arr0 34 false (.str (.str .nil))), (33536, .box [(xo 1004096), (xo 33638), (xo 33639)]), (33638, .arr0 9 false (.str .nil)), (33639, .arr0 34 false (.str (.str .nil))), (1004096, .arr 9 false (.str .nil))]⟩)]), (30, ⟨[(0, .c (.c (.ptr 0 0))), (2, .c (.c (.ptr 33280 0))), (3, .c (.c (.ptr 33536 0))), (5, .c x64)], [(0, .box [(xl (.int .i64 .nil)), x64]), (33280, .box [(xo 33281), (xo 33282), (xo 33283)]), (33281, .arr0 9 false (.str .nil)), (33282, .arr0 9 false (.str .nil)), (33283, .arr0 34 false (.str (.str .nil))), (33536, .box [(xo 1004096), (xo 1008192), (xo 33639)]), (33639, .arr0 34 false (.str (.str .nil))), (1004096, .arr 9 false (.str .nil)), (1008192, .arr 9 false (.str .nil))]⟩, [(2, ⟨[(0, .c (.c (.ptr 0 0))), (2, .c (.c (.ptr 33280 0))), (3, .c (.c (.ptr 33536 0)))], [(0, .box [(xl (.int .i64 .nil)), x64]), (33280, .box [(xo 33281), (xo 33282), (xo 33283)]), (33281, .arr0 9 false (.str .nil)), (33282, .arr0 9 false (.str .nil)), (33283, .arr0 34 false (.str (.str .nil))), (33536, .box [(xo 1004096), (xo 1012288), (xo 33639)]), (33639, .arr0 34 false (.str (.str .nil))), (1004096, .arr 9 false (.str .nil)), (1012288, .arr 9 false (.str .nil))]⟩)]), (46, ⟨[(0, .c (.c (.ptr 0 0))), (2, .c (.c (.ptr 33280 0))), (3, .c (.c (.ptr 33536 0))), (6, .c x64)], [(0, .box [(xl (.int .i64 .nil)), x64]), (33280, .box [(xo 33281), (xo 33282), (xo 33283)]), (33281, .arr0 9 false (.str .nil)), (33282, .arr0 9 false (.str .nil)), (33283, .arr0 34 false (.str (.str .nil))), (33536, .box [(xo 1004096), (xo 1012288), (xo 1016384)]), (1004096, .arr 9 false (.str .nil)), (1012288, .arr 9 false (.str .nil)), (1016384, .arr 34 false (.str (.str .nil)))]⟩, [(4, ⟨[(2, .c (.c (.ptr 33280 0))), (3, .c (.c (.ptr 33536 0)))], [(0, .box [(xl (.int .i64 .nil)), x64]), (33280, .box [(xo 33281), (xo 33282), (xo 33283)]), (33281, .arr0 9 false (.str .nil)), (33282, .arr0 9 false (.str .nil)), (33283, .arr0 34 false (.str (.str .nil))), (33536, .box [(xo 1004096), (xo 1012288), (xo 1024576)]), (1004096, .arr 9 false (.str .nil)), (1012288, .arr 9 false (.str .nil)), (1024576, .arr 34 false (.str (.str .nil)))]⟩)])]⟩
noncomputable def law20_made_S (N : Nat) : Sig := .of [Sq6] [Sq20] (fun a => law20_made N a)
theorem law20_made_spec (N : Nat) : Spec Tryz.prog 9 (law20_made_S N) := spec_of_exe (C := ctx Tryz.prog [(10, made_Deck_Next_S N), (23, law20_item_S N)] law20_made_ns) (L := law20_made_L) (fn := Tryz.f9) (N := N) (ctx_ok ⟨made_Deck_Next_spec N, law20_item_spec N, trivial⟩) (by kernel_rfl) (by kernel_rfl) (fun a => by kernel_rfl)

end Go.Proofs.YtegnjlmdppobmaaGreat.Vm

/-
  The functions of the program compute what is printed of them.
-/
namespace Go.Proofs.YtegnjlmdppobmaaGreat.Vm
open Go.Proofs
def law20_BundleDecode_ns : List (Nat × Nrm) := [(3, ⟨[], [], [], [], []⟩), (26, ⟨[37, 38, 39], [], [], [], []⟩)]
def law20_BundleDecode_L : Lk := ⟨[], [(26, ⟨[(37, .c (xo 42240)), (38, .i), (39, .c x64)], [(42240, .arr 9 false (.str .nil))]⟩, [(0, ⟨[], []⟩)])]⟩
noncomputable def law20_BundleDecode_S (N : Nat) : Sig := .of [.cell false .str, Sq5] [.cell false .bool] (fun a => law20_BundleDecode N a.1 a.2)
theorem law20_BundleDecode_spec (N : Nat) : Spec Tryz.prog 4 (law20_BundleDecode_S N) := spec_of_exe (C := ctx Tryz.prog [(7, law20_awake_S N), (8, made_New_S N), (9, law20_made_S N), (12, ref14_EncodeBundle_S N), (15, made_Damage_S N), (16, made_Rewrap_S N), (17, bundle_Decode_S N), (18, ref14_DecodeBundle_S N), (19, ref14_SameBundle_S N)] law20_BundleDecode_ns) (L := law20_BundleDecode_L) (fn := Tryz.f4) (N := N) (ctx_ok ⟨law20_awake_spec N, made_New_spec N, law20_made_spec N, ref14_EncodeBundle_spec N, made_Damage_spec N, made_Rewrap_spec N, bundle_Decode_spec N, ref14_DecodeBundle_spec N, ref14_SameBundle_spec N, trivial⟩) (by kernel_rfl) (by kernel_rfl) (fun a => by kernel_rfl)

end Go.Proofs.YtegnjlmdppobmaaGreat.Vm

/-
  Laws by which the printed functions are reasoned about. No program in sight.
-/
namespace Go.Proofs.YtegnjlmdppobmaaGreat.Vm
open Go

/-! ### numbers -/
theorem w64 {x : Int} (h1 : -9223372036854775808 ≤ x) (h2 : x ≤ 9223372036854775807) : IntKind.i64.wrap x = x := by
  have e : IntKind.i64.wrap x = if 9223372036854775808 ≤ x % 18446744073709551616 then x % 18446744073709551616 - 18446744073709551616 else x % 18446744073709551616 := by
    show (if (true && decide (x % 18446744073709551616 ≥ 9223372036854775808)) = true then _ else _) = _
    simp only [Bool.true_and, decide_eq_true_eq, ge_iff_le]
    rfl
  rw [e]
  split <;> omega
theorem w8 (x : Int) : IntKind.u8.wrap x = x % 256 := by
  have hp : (2 : Int) ^ 8 = 256 := by decide
  simp only [IntKind.wrap, IntKind.bits, IntKind.signed, Bool.false_and, Bool.false_eq_true, if_false, hp]
theorem wu64 {x : Int} (h1 : 0 ≤ x) (h2 : x ≤ 18446744073709551615) : IntKind.u64.wrap x = x := by
  have hp : (2 : Int) ^ 64 = 18446744073709551616 := by decide
  simp only [IntKind.wrap, IntKind.bits, IntKind.signed, Bool.false_and, Bool.false_eq_true, if_false, hp]
  omega
theorem and31 (a : Nat) (h : a < 256) : bitsI .and .i64 (a : Int) 31 = ((a % 32 : Nat) : Int) := by
  have : ∀ a : Fin 256, bitsI .and .i64 ((a.val : Nat) : Int) 31 = ((a.val % 32 : Nat) : Int) := by decide +kernel
  exact this ⟨a, h⟩
theorem and32 (a : Nat) (h : a < 256) : bitsI .and .i64 (a : Int) 32 = ((if a / 32 % 2 = 1 then 32 else 0 : Nat) : Int) := by
  have : ∀ a : Fin 256, bitsI .and .i64 ((a.val : Nat) : Int) 32 = ((if a.val / 32 % 2 = 1 then 32 else 0 : Nat) : Int) := by decide +kernel
  exact this ⟨a, h⟩
theorem or8 (t b : Nat) (ht : t < 36028797018963968) (hb : b < 256) : bitsI .or .i64 (((t * 256 : Nat)) : Int) (b : Int) = ((t * 256 + b : Nat) : Int) := by
  have e : ∀ n : Nat, n < 2 ^ 64 → (BitVec.ofInt 64 (n : Int)) = BitVec.ofNat 64 n := fun n _ => by simp
  show IntKind.i64.wrap _ = _
  rw [show (BitVec.ofInt (IntKind.i64).bits ((t * 256 : Nat) : Int)) = BitVec.ofNat 64 (t * 256) from e _ (by omega), show (BitVec.ofInt (IntKind.i64).bits ((b : Nat) : Int)) = BitVec.ofNat 64 b from e _ (by omega)]
  show IntKind.i64.wrap (((BitVec.ofNat 64 (t * 256)) ||| (BitVec.ofNat 64 b)).toNat : Int) = _
  rw [BitVec.toNat_or, BitVec.toNat_ofNat, BitVec.toNat_ofNat, Nat.mod_eq_of_lt (by omega), Nat.mod_eq_of_lt (by omega)]
  rw [show t * 256 = t <<< 8 by rw [Nat.shiftLeft_eq], ← Nat.shiftLeft_add_eq_or_of_lt (by omega : b < 2 ^ 8), Nat.shiftLeft_eq]
  exact w64 (by omega) (by omega)

/-! ### tests -/
theorem chk_if {ρ : Type} (p : Prop) [Decidable p] (k : Option ρ) : chk (decide p) k = if p then k else none := by
  by_cases h : p <;> simp [chk, h]
theorem chk_t {ρ : Type} (k : Option ρ) : chk true k = k := rfl
theorem chk_or {ρ : Type} (b : Bool) (k : Option ρ) : chk (!b || !!b) k = k := by cases b <;> rfl
theorem chk_or' {ρ : Type} (b : Bool) (k : Option ρ) : chk (b || !b) k = k := by cases b <;> rfl
theorem chk_bif {ρ : Type} (b : Bool) (k : Option ρ) : chk (bif b then true else !b) k = k := by cases b <;> rfl
theorem chk_bif' {ρ : Type} (b : Bool) (k : Option ρ) : chk (bif b then true else true) k = k := by cases b <;> rfl
theorem chk_bif'' {ρ : Type} (b : Bool) (k : Option ρ) : chk (bif b then b else true) k = k := by cases b <;> rfl
theorem bif_or (a b : Bool) : (bif a then true else b) = (a || b) := by cases a <;> rfl
theorem bif_and (a b : Bool) : (bif a then b else false) = (a && b) := by cases a <;> rfl
theorem bif_if {α : Type} (p : Prop) [Decidable p] (a b : α) : (bif decide p then a else b) = if p then a else b := by by_cases h : p <;> simp [h]
theorem chk_ort {ρ : Type} (b : Bool) (k : Option ρ) : chk (b || true) k = k := by cases b <;> rfl
theorem bif_ite {α : Type} (b : Bool) (x y : α) : (bif b then x else y) = if b = true then x else y := by cases b <;> rfl
theorem chk_ite {ρ : Type} (b : Bool) (k : Option ρ) : chk b k = if b = true then k else none := by cases b <;> rfl
theorem callO_s {α ρ : Type} [Inhabited α] (a : α) (k : α → Option ρ) : callO (some a) k = k a := rfl
theorem letJ_eq {α ρ : Type} (A : (α → Option ρ) → Option ρ) (f : α → Option ρ) : letJ A f = A f := rfl

theorem letJ_post {α ρ : Type} {A : (α → Option ρ) → Option ρ} {f : α → Option ρ} (P : α → Prop) (Q : Option ρ → Prop) (hA : ∀ j : α → Option ρ, (∀ x, P x → Q (j x)) → Q (A j)) (hf : ∀ x, P x → Q (f x)) : Q (letJ A f) := hA f hf

/-! ### loops -/
theorem iterG_s {X Y ρ : Type} (B : X → (X → Option ρ) → (Y → Option ρ) → Option ρ) (n : Nat) (x : X) (kx : Y → Option ρ) : iterG B (n + 1) x kx = B x (fun x' => iterG B n x' kx) kx := rfl
theorem iterG_of {X Y ρ : Type} {B : X → (X → Option ρ) → (Y → Option ρ) → Option ρ} {kx : Y → Option ρ} (I : X → Prop) (μ : X → Nat) (F : X → Option ρ)
    (h : ∀ x, I x → ∀ k : X → Option ρ, (∀ x', I x' → μ x' < μ x → k x' = F x') → B x k kx = F x) : ∀ (N : Nat) (x : X), I x → μ x < N → iterG B N x kx = F x := by
  intro N
  induction N with
  | zero => intro x _ h; omega
  | succ N ih => intro x hI hm; exact h x hI _ (fun x' hI' hm' => ih x' hI' (by omega))
/-- what holds of the end holds of the loop -/
theorem iterG_post {X Y ρ : Type} {B : X → (X → Option ρ) → (Y → Option ρ) → Option ρ} {kx : Y → Option ρ} (I : X → Prop) (μ : X → Nat) (Q : Option ρ → Prop)
    (h : ∀ x, I x → ∀ k : X → Option ρ, (∀ x', I x' → μ x' < μ x → Q (k x')) → Q (B x k kx)) : ∀ (N : Nat) (x : X), I x → μ x < N → Q (iterG B N x kx) := by
  intro N
  induction N with
  | zero => intro x _ h; omega
  | succ N ih => intro x hI hm; exact h x hI _ (fun x' hI' hm' => ih x' hI' (by omega))
/-- over a list -/
def eachG {E S ρ : Type} (step : E → S → (S → Option ρ) → Option ρ) (fin : S → Option ρ) : List E → S → Option ρ
  | [], s => fin s
  | e :: r, s => step e s (fun s' => eachG step fin r s')
theorem iterG_each {X Y S E ρ : Type} {B : X → (X → Option ρ) → (Y → Option ρ) → Option ρ} {kx : Y → Option ρ} (mk : Int → S → X) (l : List E) (d : E) (step : E → S → (S → Option ρ) → Option ρ) (fin : S → Option ρ)
    (h : ∀ (i : Nat) (s : S) (k : X → Option ρ), i < l.length → B (mk (i : Int) s) k kx = step (l.getD i d) s (fun s' => k (mk ((i : Int) + 1) s')))
    (hend : ∀ (s : S) (k : X → Option ρ), B (mk (l.length : Int) s) k kx = fin s) (N : Nat) (s : S) (hN : l.length < N) : iterG B N (mk 0 s) kx = eachG step fin l s := by
  have key : ∀ (n i : Nat) (s : S) , i ≤ l.length → l.length - i < n → iterG B n (mk (i : Int) s) kx = eachG step fin (l.drop i) s := by
    intro n
    induction n with
    | zero => intro i s _ h; omega
    | succ n ih =>
      intro i s hi hn
      rw [iterG_s]
      by_cases hl : i < l.length
      · rw [h i s _ hl, List.drop_eq_getElem_cons hl]
        show _ = step l[i] s (fun s' => eachG step fin (l.drop (i + 1)) s')
        rw [show l.getD i d = l[i] by simp [List.getD_eq_getElem?_getD, hl]]
        congr 1
        funext s'
        exact ih (i + 1) s' (by omega) (by omega)
      · have : i = l.length := by omega
        rw [this, hend, List.drop_length]; rfl
  exact key N 0 s (by omega) (by omega)
/-- the first that is wrong -/
def firstE {E : Type} (f : E → Int) : List E → Int
  | [] => 0
  | e :: r => if f e ≠ 0 then f e else firstE f r
theorem eachG_first {E S : Type} {ρ : Type} (f : E → Int) (ret : Int → Option ρ) (fin : S → Option ρ) (step : E → S → (S → Option ρ) → Option ρ) : ∀ (l : List E) (s : S), (∀ e ∈ l, ∀ s k, step e s k = if f e ≠ 0 then ret (f e) else k s) → eachG step fin l s = if firstE f l ≠ 0 then ret (firstE f l) else fin s := by
  intro l
  induction l with
  | nil => intro s _; rfl
  | cons e r ih =>
    intro s h
    show step e s _ = _
    rw [h e List.mem_cons_self]
    show _ = if (if f e ≠ 0 then f e else firstE f r) ≠ 0 then ret (if f e ≠ 0 then f e else firstE f r) else fin s
    by_cases he : f e = 0
    · have hn : ¬ (f e ≠ 0) := fun h => h he
      rw [if_neg hn, if_neg hn, ih s (fun e he => h e (List.mem_cons_of_mem _ he))]
    · rw [if_pos he, if_pos he, if_pos he]
end Go.Proofs.YtegnjlmdppobmaaGreat.Vm

/-
  Plain functions on bytes: elements of DER (reading, checking what is nested, writing), and laws among them. No program in sight.
-/
namespace Go.Proofs.YtegnjlmdppobmaaGreat.Sp

/-! ### reading the head of an element -/
def beNat (l : List UInt8) : Nat := l.foldl (fun v b => v * 256 + b.toNat) 0
def leastOf (k : Nat) : Nat := if k = 1 then 128 else 2 ^ (8 * (k - 1))
theorem beNat_snoc (l : List UInt8) (b : UInt8) : beNat (l ++ [b]) = beNat l * 256 + b.toNat := by simp [beNat, List.foldl_append]
theorem beNat_lt (l : List UInt8) : beNat l < 256 ^ l.length := by
  have h : ∀ (l : List UInt8) (v h : Nat), v < h → l.foldl (fun v b => v * 256 + b.toNat) v < h * 256 ^ l.length := by
    intro l
    induction l with
    | nil => intro v h hv; simpa using hv
    | cons b r ih =>
      intro v h hv
      have hb := b.toNat_lt
      have := ih (v * 256 + b.toNat) (h * 256) (by omega)
      rw [List.foldl_cons, List.length_cons, Nat.pow_succ]
      rw [Nat.mul_comm (256 ^ r.length) 256, ← Nat.mul_assoc]; exact this
  have := h l 0 1 (by omega)
  simpa [beNat] using this

/-- the head: an error, or where the contents begin and how long they are -/
def head (l : List UInt8) : Int × Nat × Nat :=
  match l with
  | [] => (3, 0, 0)
  | t :: r =>
    if t.toNat % 32 = 31 then (5, 0, 0) else
    match r with
    | [] => (3, 0, 0)
    | n :: r =>
      if n.toNat < 128 then (0, 2, n.toNat) else
      if n.toNat = 128 ∨ 131 < n.toNat then (6, 0, 0) else
      if r.length < n.toNat - 128 then (3, 0, 0) else
      if beNat (r.take (n.toNat - 128)) < leastOf (n.toNat - 128) ∨ 131072 < beNat (r.take (n.toNat - 128)) then (6, 0, 0) else
      (0, 2 + (n.toNat - 128), beNat (r.take (n.toNat - 128)))
def rd (l : List UInt8) : Int × Nat × Nat := if (head l).1 = 0 ∧ l.length - (head l).2.1 < (head l).2.2 then (3, 0, 0) else head l
def err (l : List UInt8) : Int := (rd l).1
def tag (l : List UInt8) : Nat := (l.headD 0).toNat
def content (l : List UInt8) : List UInt8 := (l.drop (rd l).2.1).take (rd l).2.2
def raw (l : List UInt8) : List UInt8 := l.take ((rd l).2.1 + (rd l).2.2)
def rest (l : List UInt8) : List UInt8 := l.drop ((rd l).2.1 + (rd l).2.2)
theorem head_ok (l : List UInt8) (h : (head l).1 = 0) : 2 ≤ (head l).2.1 ∧ (head l).2.1 ≤ l.length ∧ (head l).2.1 ≤ 5 ∧ (head l).2.2 ≤ 131072 := by
  unfold head at *
  split at h
  · simp at h
  · split at h
    · simp at h
    · split at h
      · simp at h
      · split at h
        · simp only [*, if_true, if_false, List.length_cons]; omega
        · split at h
          · simp at h
          · split at h
            · simp at h
            · split at h
              · simp at h
              · simp only [*, if_false, List.length_cons]; omega
theorem rd_ok (l : List UInt8) (h : err l = 0) : 2 ≤ (rd l).2.1 ∧ (rd l).2.1 + (rd l).2.2 ≤ l.length ∧ (rd l).2.1 ≤ 5 ∧ (rd l).2.2 ≤ 131072 := by
  unfold err rd at *
  by_cases hc : (head l).1 = 0 ∧ l.length - (head l).2.1 < (head l).2.2
  · rw [if_pos hc] at h; simp at h
  · rw [if_neg hc] at h ⊢
    have := head_ok l h
    omega
theorem err_cases (l : List UInt8) : err l = 0 ∨ err l = 3 ∨ err l = 5 ∨ err l = 6 := by
  unfold err rd
  split
  · simp
  · unfold head
    split
    · simp
    · split
      · simp
      · split
        · simp
        · split
          · simp
          · split
            · simp
            · split
              · simp
              · split <;> simp
theorem rest_lt (l : List UInt8) (h : err l = 0) : (rest l).length < l.length := by
  have := rd_ok l h
  unfold rest; rw [List.length_drop]; omega
theorem content_lt (l : List UInt8) (h : err l = 0) : (content l).length < l.length := by
  have := rd_ok l h
  unfold content; rw [List.length_take, List.length_drop]; omega
theorem content_length (l : List UInt8) (h : err l = 0) : (content l).length = (rd l).2.2 := by
  have := rd_ok l h
  unfold content; rw [List.length_take, List.length_drop]; omega
theorem raw_length (l : List UInt8) (h : err l = 0) : (raw l).length = (rd l).2.1 + (rd l).2.2 := by
  have := rd_ok l h
  unfold raw; rw [List.length_take]; omega

/-! ### one element; what is nested in it -/
def oneErr (l : List UInt8) : Int := if err l ≠ 0 then err l else if rest l = [] then 0 else 4
def cons (t : Nat) : Bool := decide (t / 32 % 2 = 1)
/-- the first error in contents that lie in d elements (fuel: more than their length) -/
def within : Nat → Nat → List UInt8 → Int
  | 0, _, _ => 0
  | f + 1, d, l =>
    if l = [] then 0 else
    if err l ≠ 0 then err l else
    if 16 ≤ d then 8 else
    if (if cons (tag l) then within f (d + 1) (content l) else 0) ≠ 0 then (if cons (tag l) then within f (d + 1) (content l) else 0)
    else within f d (rest l)
def inner (f d : Nat) (t : Nat) (c : List UInt8) : Int := if cons t then within f d c else 0
theorem within_nil (f d : Nat) : within f d [] = 0 := by cases f <;> simp [within]
theorem within_err (f d : Nat) (l : List UInt8) (h : l ≠ []) (he : err l ≠ 0) : within (f + 1) d l = err l := by
  rw [within, if_neg h, if_pos he]
theorem within_deep (f d : Nat) (l : List UInt8) (h : l ≠ []) (he : err l = 0) (hd : 16 ≤ d) : within (f + 1) d l = 8 := by
  rw [within, if_neg h, if_neg (by simp [he]), if_pos hd]
theorem within_bad (f d : Nat) (l : List UInt8) (h : l ≠ []) (he : err l = 0) (hd : ¬ 16 ≤ d) (hi : inner f (d + 1) (tag l) (content l) ≠ 0) : within (f + 1) d l = inner f (d + 1) (tag l) (content l) := by
  rw [within, if_neg h, if_neg (by simp [he]), if_neg hd]
  unfold inner at hi ⊢
  rw [if_pos hi]
theorem within_step (f d : Nat) (l : List UInt8) (h : l ≠ []) (he : err l = 0) (hd : ¬ 16 ≤ d) (hi : inner f (d + 1) (tag l) (content l) = 0) : within (f + 1) d l = within f d (rest l) := by
  rw [within, if_neg h, if_neg (by simp [he]), if_neg hd]
  unfold inner at hi
  rw [if_neg (by simp [hi])]
def chk (l : List UInt8) : Int := if oneErr l ≠ 0 then oneErr l else inner (l.length + 1) 1 (tag l) (content l)
/-- a whole element that is a sequence -/
def seqErr (l : List UInt8) : Int := if chk l ≠ 0 then chk l else if tag l = 48 then 0 else 5

/-! ### writing -/
def lenBytes (n : Nat) : List UInt8 :=
  if n < 128 then [UInt8.ofNat n] else if n < 256 then [129, UInt8.ofNat n] else if n < 65536 then [130, UInt8.ofNat (n / 256), UInt8.ofNat n]
  else [131, UInt8.ofNat (n / 65536), UInt8.ofNat (n / 256), UInt8.ofNat n]
def elem (t : Nat) (c : List UInt8) : List UInt8 := UInt8.ofNat t :: lenBytes c.length ++ c
def wrap (t : Int) (c : List UInt8) : List UInt8 × Int :=
  if t < 0 ∨ 255 < t ∨ t % 32 = 31 then ([], 5) else if 131072 < c.length then ([], 6) else (elem t.toNat c, 0)
theorem lenBytes_length (n : Nat) : (lenBytes n).length ≤ 4 := by unfold lenBytes; split <;> (try split) <;> (try split) <;> simp
theorem elem_length (t : Nat) (c : List UInt8) : (elem t c).length ≤ c.length + 5 := by
  have := lenBytes_length c.length
  unfold elem; simp; omega
theorem wrap_length (t : Int) (c : List UInt8) : (wrap t c).1.length ≤ 131077 := by
  unfold wrap
  split
  · simp
  · split
    · simp
    · have := elem_length t.toNat c
      simp; omega
end Go.Proofs.YtegnjlmdppobmaaGreat.Sp

/-
  Elements: what reading them computes. No program in sight.
-/
namespace Go.Proofs.YtegnjlmdppobmaaGreat.Pl
open Go Vm

def elemP (l : Bs) : Int × Bs × Bs := ((Sp.tag l : Int), Sp.content l, Sp.raw l)
def readP (l : Bs) : (Int × Bs × Bs) × Bs × Int := if Sp.err l = 0 then (elemP l, Sp.rest l, 0) else ((0, [], []), [], Sp.err l)
theorem beNat1 (a : UInt8) : Sp.beNat [a] = a.toNat := by simp [Sp.beNat]
theorem beNat2 (a b : UInt8) : Sp.beNat [a, b] = a.toNat * 256 + b.toNat := by simp [Sp.beNat]
theorem beNat3 (a b c : UInt8) : Sp.beNat [a, b, c] = (a.toNat * 256 + b.toNat) * 256 + c.toNat := by simp [Sp.beNat]
/-- an end that both readers come to -/
theorem read_end {s : Bs} {p n : Nat} (hh : Sp.head s = (0, p, n)) (hp : p ≤ s.length) : (if ((s.length : Int) - p < n) then (some ((0, ([] : Bs), ([] : Bs)), ([] : Bs), 3) : Option ((Int × Bs × Bs) × Bs × Int)) else some ((((s.getD 0 0).toNat : Int), cutL s p (p + n), cutL s 0 (p + n)), cutL s (p + n) s.length, 0)) = some (readP s) := by
  have e1 : ∀ a b, (cutL s a b) = (s.take b).drop a := fun a b => rfl
  by_cases h : (s.length : Int) - p < n
  · rw [if_pos h]
    have : Sp.rd s = (3, 0, 0) := by unfold Sp.rd; rw [hh, if_pos ⟨rfl, by show s.length - p < n; omega⟩]
    unfold readP Sp.err; rw [this]; rfl
  · rw [if_neg h]
    have hr : Sp.rd s = (0, p, n) := by unfold Sp.rd; rw [hh, if_neg (by intro hc; have := hc.2; simp at this; omega)]
    have he : Sp.err s = 0 := by unfold Sp.err; rw [hr]
    unfold readP
    rw [if_pos he]
    unfold elemP Sp.content Sp.raw Sp.rest
    rw [hr, e1, e1, e1]
    congr 1
    refine Prod.ext (Prod.ext ?_ (Prod.ext ?_ ?_)) (Prod.ext ?_ rfl)
    · show ((s.getD 0 0).toNat : Int) = ((Sp.tag s : Nat) : Int)
      unfold Sp.tag; cases s <;> rfl
    · show (s.take (p + n)).drop p = (s.drop p).take n
      rw [List.drop_take]; congr 1; omega
    · show (s.take (p + n)).drop 0 = _
      rw [List.drop_zero]
    · show (s.take s.length).drop (p + n) = _
      rw [List.take_length]
theorem take_snoc {α : Type} {l : List α} {i : Nat} (h : i < l.length) : l.take (i + 1) = l.take i ++ [l[i]] := by
  rw [List.take_add_one, List.getElem?_eq_getElem h]; rfl
theorem beNat_take {l : Bs} {i : Nat} (h : i < l.length) : Sp.beNat (l.take (i + 1)) = Sp.beNat (l.take i) * 256 + (l[i]).toNat := by
  rw [take_snoc h, Sp.beNat_snoc]
theorem beNat_small {l : Bs} (i : Nat) (hl : l.length ≤ 3) : Sp.beNat (l.take i) < 16777216 := by
  have h1 := Sp.beNat_lt (l.take i)
  have h2 : 256 ^ (l.take i).length ≤ 256 ^ 3 := Nat.pow_le_pow_right (by omega) (by rw [List.length_take]; omega)
  have : (256 : Nat) ^ 3 = 16777216 := by decide
  omega
theorem dig_loop {ρ : Type} (N : Nat) (l : Bs) (hl : l.length ≤ 3) (hN : 4 < N) (kx : Int → Option ρ) :
    iterG (X := Int × Int × List Int) (Y := Int) (U3 fun t7b t52b l45568b k2 x3 =>
      if t52b < ((List.map (fun (b : UInt8) => ((b.toNat : Int))) l).length : Int) then if (0 : Int) ≤ t52b then if t52b < (l45568b.length : Int) then if t52b.toNat < l45568b.length then
        k2 (bitsI .or .i64 (IntKind.i64.wrap (t7b * (256))) (IntKind.i64.wrap (l45568b.getD t52b.toNat 0)), IntKind.i64.wrap (t52b + (1 : Int)), l45568b) else none else none else none
      else x3 t7b) N (0, 0, List.map (fun (b : UInt8) => ((b.toNat : Int))) l) kx = kx (Sp.beNat l) := by
  refine iterG_of (fun x => ∃ i, i ≤ l.length ∧ x = ((Sp.beNat (l.take i) : Int), (i : Int), List.map (fun (b : UInt8) => ((b.toNat : Int))) l)) (fun x => l.length - x.2.1.toNat) (fun _ => kx (Sp.beNat l)) ?_ N _ ⟨0, by omega, rfl⟩ (by show l.length - 0 < N; omega)
  rintro x ⟨i, hi, rfl⟩ k hk
  show (if (i : Int) < _ then _ else _) = _
  rw [List.length_map]
  by_cases h : i < l.length
  · dsimp only
    rw [if_pos (by omega), if_pos (by omega), if_pos (by omega), Int.toNat_natCast, if_pos h]
    have hb := (l[i]).toNat_lt
    have hs := beNat_small (l := l) i hl
    rw [show (List.map (fun (b : UInt8) => ((b.toNat : Int))) l).getD i 0 = ((l[i].toNat : Nat) : Int) by simp [List.getD_eq_getElem?_getD, h]]
    rw [w64 (x := ((Sp.beNat (l.take i) : Nat) : Int) * 256) (by omega) (by omega), w64 (x := ((l[i].toNat : Nat) : Int)) (by omega) (by omega), w64 (x := (i : Int) + 1) (by omega) (by omega)]
    rw [show ((Sp.beNat (l.take i) : Nat) : Int) * 256 = ((Sp.beNat (l.take i) * 256 : Nat) : Int) by omega, or8 _ _ (by omega) hb, ← beNat_take h]
    exact hk _ ⟨i + 1, h, rfl⟩ (by show l.length - ((i : Int) + 1).toNat < l.length - (i : Int).toNat; omega)
  · rw [if_neg (by omega)]
    rw [List.take_of_length_le (by omega)]
theorem least_eq (N : Nat) (k : Nat) (h1 : 1 ≤ k) (h3 : k ≤ 3) : tlv_least N (k : Int) = some (Sp.leastOf k : Int) := by
  have : k = 1 ∨ k = 2 ∨ k = 3 := by omega
  rcases this with rfl | rfl | rfl <;> rfl
set_option maxRecDepth 4000
theorem tlv_Read_eq (N : Nat) (s : Bs) (hN : 4 < N) (hs : s.length ≤ 1099511627776) : tlv_Read N s = some (readP s) := by
  unfold tlv_Read
  cases s with
  | nil => rfl
  | cons a r =>
    have ha := a.toNat_lt
    have h0 : ((a :: r : Bs) == ([] : Bs)) = false := rfl
    simp only [h0, cond_false, List.getD_cons_zero, List.length_cons, chk_or, chk_or', chk_ort, bif_or]
    simp only [chk_ite, bif_ite, beq_iff_eq, decide_eq_true_eq, Bool.or_eq_true, Bool.and_eq_true]
    rw [w64 (by omega) (by omega), and31 _ ha]
    by_cases h31 : a.toNat % 32 = 31
    · have : Sp.err (a :: r) = 5 := by simp [Sp.err, Sp.rd, Sp.head, h31]
      unfold readP
      rw [this, if_pos (by omega), if_pos (by omega)]
      rfl
    · rw [if_pos (by omega), if_neg (by omega)]
      cases r with
      | nil =>
        have : Sp.err [a] = 3 := by simp [Sp.err, Sp.rd, Sp.head, h31]
        unfold readP
        rw [this, if_pos (by simp)]
        rfl
      | cons b c =>
        have hb := b.toNat_lt
        simp only [List.length_cons] at hs
        simp only [List.getD_cons_succ, List.getD_cons_zero, List.length_cons]
        rw [w64 (x := ((b.toNat : Nat) : Int)) (by omega) (by omega), if_neg (by omega), if_pos (by omega)]
        by_cases h6 : b.toNat = 128 ∨ 131 < b.toNat
        · have : Sp.err (a :: b :: c) = 6 := by simp [Sp.err, Sp.rd, Sp.head, h31, h6, show ¬ b.toNat < 128 by omega]
          unfold readP
          rw [this, if_pos (by omega)]
          rfl
        · rw [if_neg (by omega), letJ_eq]
          -- the end, from where the contents begin and how long they are
          have hend : ∀ p n : Nat, Sp.head (a :: b :: c) = (0, p, n) → p ≤ c.length + 2 → n ≤ 131072 → (if IntKind.i64.wrap (((c.length + 1 + 1 : Nat) : Int) - (p : Int)) < (n : Int) then some ((0, ([] : Bs), ([] : Bs)), ([] : Bs), 3)
              else if (0 : Int) ≤ (p : Int) then if (p : Int) ≤ IntKind.i64.wrap ((p : Int) + (n : Int)) then if IntKind.i64.wrap ((p : Int) + (n : Int)) ≤ ((c.length + 1 + 1 : Nat) : Int) then if (0 : Int) ≤ IntKind.i64.wrap ((p : Int) + (n : Int)) then
                if IntKind.i64.wrap ((p : Int) + (n : Int)) ≤ ((c.length + 1 + 1 : Nat) : Int) then if (0 : Int) ≤ IntKind.i64.wrap ((p : Int) + (n : Int)) then if IntKind.i64.wrap ((p : Int) + (n : Int)) ≤ ((c.length + 1 + 1 : Nat) : Int) then
                some ((((a.toNat : Nat) : Int), cutL (a :: b :: c) (p : Int).toNat (IntKind.i64.wrap ((p : Int) + (n : Int))).toNat, cutL (a :: b :: c) 0 (IntKind.i64.wrap ((p : Int) + (n : Int))).toNat), cutL (a :: b :: c) (IntKind.i64.wrap ((p : Int) + (n : Int))).toNat (c.length + 1 + 1), 0)
                else none else none else none else none else none else none else none : Option ((Int × Bs × Bs) × Bs × Int)) = some (readP (a :: b :: c)) := by
            intro p n hh hp hn
            have := read_end (s := a :: b :: c) hh (by simp; omega)
            rw [w64 (x := ((c.length + 1 + 1 : Nat) : Int) - (p : Int)) (by omega) (by omega), w64 (x := (p : Int) + (n : Int)) (by omega) (by omega)]
            rw [← this]
            show (if ((c.length + 1 + 1 : Nat) : Int) - (p : Int) < (n : Int) then _ else _) = (if ((c.length + 1 + 1 : Nat) : Int) - (p : Int) < (n : Int) then _ else _)
            by_cases hlt : ((c.length + 1 + 1 : Nat) : Int) - (p : Int) < (n : Int)
            · rw [if_pos hlt, if_pos hlt]
            · rw [if_neg hlt, if_neg hlt, if_pos (by omega), if_pos (by omega), if_pos (by omega), if_pos (by omega), if_pos (by omega), if_pos (by omega), if_pos (by omega)]
              rw [show ((p : Int) + (n : Int)).toNat = p + n by omega, Int.toNat_natCast]
              rfl
          by_cases h128 : b.toNat < 128
          · rw [if_neg (by omega)]
            exact hend 2 b.toNat (by simp [Sp.head, h31, h128]) (by omega) (by omega)
          · rw [if_pos (by omega)]
            obtain ⟨k, hk⟩ : ∃ k : Nat, b.toNat = 128 + k := ⟨b.toNat - 128, by omega⟩
            rw [w64 (x := ((b.toNat : Nat) : Int) - 128) (by omega) (by omega), show ((b.toNat : Nat) : Int) - 128 = (k : Int) by omega, w64 (x := 2 + (k : Int)) (by omega) (by omega)]
            by_cases hlen : c.length < k
            · rw [if_pos (by omega)]
              have : Sp.err (a :: b :: c) = 3 := by simp [Sp.err, Sp.rd, Sp.head, h31, h128, h6, show b.toNat - 128 = k by omega, hlen]
              unfold readP
              rw [this]
              rfl
            · have hcut : cutL (a :: b :: c) 2 ((2 + (k : Int)).toNat) = c.take k := by
                rw [show (2 + (k : Int)).toNat = k + 2 by omega]; rfl
              have hlk : (c.take k).length = k := by rw [List.length_take]; omega
              rw [if_neg (by omega), if_pos (by omega), if_pos (by omega), hcut, if_pos (by omega)]
              rw [dig_loop N (c.take k) (by omega) hN, least_eq N k (by omega) (by omega), callO_s]
              by_cases hbad : Sp.beNat (c.take k) < Sp.leastOf k ∨ 131072 < Sp.beNat (c.take k)
              · have : Sp.err (a :: b :: c) = 6 := by simp [Sp.err, Sp.rd, Sp.head, h31, h128, h6, show b.toNat - 128 = k by omega, hlen, hbad]
                unfold readP
                rw [if_pos (by omega), this]
                rfl
              · rw [if_neg (by omega)]
                have := hend (2 + k) (Sp.beNat (c.take k)) (by simp [Sp.head, h31, h128, h6, show b.toNat - 128 = k by omega, hlen, hbad]) (by omega) (by omega)
                rw [show (((2 + k : Nat)) : Int) = 2 + (k : Int) by omega] at this
                exact this
theorem dig_loop_ref {ρ : Type} (N : Nat) (s : Bs) (k : Nat) (hk : k ≤ 3) (hl : k + 2 ≤ s.length) (hs : s.length ≤ 1099511627776) (hN : 4 < N) (kx : Int → Option ρ) :
    iterG (X := Int × Int) (Y := Int) (U2 fun t6b t9b k2 x3 =>
      if t9b < (k : Int) then if (0 : Int) ≤ IntKind.i64.wrap ((2 : Int) + t9b) then if IntKind.i64.wrap ((2 : Int) + t9b) < (s.length : Int) then
        k2 (IntKind.i64.wrap ((IntKind.i64.wrap ((256 : Int) * t6b)) + IntKind.i64.wrap ((s.getD ((IntKind.i64.wrap ((2 : Int) + t9b)).toNat) 0).toNat : Int)), IntKind.i64.wrap (t9b + (1 : Int))) else none else none
      else x3 t6b) N (0, 0) kx = kx (Sp.beNat ((s.drop 2).take k)) := by
  have hlen : ((s.drop 2).take k).length = k := by rw [List.length_take, List.length_drop]; omega
  generalize hL : (s.drop 2).take k = l at hlen
  refine iterG_of (fun x => ∃ i, i ≤ k ∧ x = ((Sp.beNat (l.take i) : Int), (i : Int))) (fun x => k - x.2.toNat) (fun _ => kx (Sp.beNat l)) ?_ N _ ⟨0, by omega, rfl⟩ (by show k - 0 < N; omega)
  rintro x ⟨i, hi, rfl⟩ kk hkk
  show (if (i : Int) < _ then _ else _) = _
  by_cases h : i < k
  · have hb := (l[i]'(by omega)).toNat_lt
    have hs' := beNat_small (l := l) i (by omega)
    dsimp only
    rw [if_pos (by omega), w64 (x := 2 + (i : Int)) (by omega) (by omega), if_pos (by omega), if_pos (by omega), show (2 + (i : Int)).toNat = i + 2 by omega]
    have e : s.getD (i + 2) 0 = l[i]'(by omega) := by
      have : l[i]? = s[i + 2]? := by rw [← hL, List.getElem?_take, if_pos h, List.getElem?_drop, Nat.add_comm]
      rw [List.getD_eq_getElem?_getD, ← this, List.getElem?_eq_getElem (by omega)]; rfl
    rw [e, w64 (x := 256 * ((Sp.beNat (l.take i) : Nat) : Int)) (by omega) (by omega), w64 (x := (((l[i]'(by omega)).toNat : Nat) : Int)) (by omega) (by omega), w64 (x := (i : Int) + 1) (by omega) (by omega), w64 (by omega) (by omega)]
    have := beNat_take (l := l) (i := i) (by omega)
    rw [show 256 * ((Sp.beNat (l.take i) : Nat) : Int) + (((l[i]'(by omega)).toNat : Nat) : Int) = ((Sp.beNat (l.take (i + 1)) : Nat) : Int) by omega]
    exact hkk _ ⟨i + 1, h, rfl⟩ (by show k - ((i : Int) + 1).toNat < k - (i : Int).toNat; omega)
  · rw [if_neg (by omega), List.take_of_length_le (by omega)]
theorem least_ref (k : Nat) (h1 : 1 ≤ k) (h3 : k ≤ 3) : (([0, 128, 256, 65536] : List Int).getD k 0) = (Sp.leastOf k : Int) := by
  have : k = 1 ∨ k = 2 ∨ k = 3 := by omega
  rcases this with rfl | rfl | rfl <;> rfl
theorem ref01_Read_eq (N : Nat) (s : Bs) (hN : 4 < N) (hs : s.length ≤ 1099511627776) : ref01_Read N s = some (readP s) := by
  unfold ref01_Read
  cases s with
  | nil => rfl
  | cons a r =>
    have ha := a.toNat_lt
    simp only [List.getD_cons_zero, List.length_cons, chk_or, chk_or', chk_ort, bif_or]
    simp only [chk_ite, bif_ite, beq_iff_eq, decide_eq_true_eq, Bool.or_eq_true, Bool.and_eq_true]
    rw [if_neg (by omega), if_pos (by omega)]
    have ht : ((a.toNat : Nat) : Int).tmod 32 = ((a.toNat % 32 : Nat) : Int) := by rw [Int.tmod_eq_emod_of_nonneg (by omega)]; omega
    rw [ht]
    by_cases h31 : a.toNat % 32 = 31
    · have : Sp.err (a :: r) = 5 := by simp [Sp.err, Sp.rd, Sp.head, h31]
      unfold readP
      rw [this, if_pos (by omega)]
      rfl
    · rw [if_neg (by omega)]
      cases r with
      | nil =>
        have : Sp.err [a] = 3 := by simp [Sp.err, Sp.rd, Sp.head, h31]
        unfold readP
        rw [this]
        rfl
      | cons b c =>
        have hb := b.toNat_lt
        simp only [List.length_cons] at hs
        simp only [List.getD_cons_succ, List.getD_cons_zero, List.length_cons]
        rw [w64 (x := ((b.toNat : Nat) : Int)) (by omega) (by omega), if_neg (by omega), if_pos (by omega)]
        by_cases h6 : b.toNat = 128 ∨ 131 < b.toNat
        · have : Sp.err (a :: b :: c) = 6 := by simp [Sp.err, Sp.rd, Sp.head, h31, h6, show ¬ b.toNat < 128 by omega]
          unfold readP
          rw [this, if_pos (by omega)]
          rfl
        · rw [if_neg (by omega), letJ_eq]
          have hend : ∀ p n : Nat, Sp.head (a :: b :: c) = (0, p, n) → p ≤ c.length + 2 → n ≤ 131072 → (if IntKind.i64.wrap (((c.length + 1 + 1 : Nat) : Int) - (p : Int)) < (n : Int) then some ((0, ([] : Bs), ([] : Bs)), ([] : Bs), 3)
              else if (0 : Int) < ((c.length + 1 + 1 : Nat) : Int) then if (0 : Int) ≤ (p : Int) then if (p : Int) ≤ IntKind.i64.wrap ((p : Int) + (n : Int)) then if IntKind.i64.wrap ((p : Int) + (n : Int)) ≤ ((c.length + 1 + 1 : Nat) : Int) then if (0 : Int) ≤ IntKind.i64.wrap ((p : Int) + (n : Int)) then
                if IntKind.i64.wrap ((p : Int) + (n : Int)) ≤ ((c.length + 1 + 1 : Nat) : Int) then if (0 : Int) ≤ IntKind.i64.wrap ((p : Int) + (n : Int)) then if IntKind.i64.wrap ((p : Int) + (n : Int)) ≤ ((c.length + 1 + 1 : Nat) : Int) then
                some ((IntKind.i64.wrap ((a.toNat : Nat) : Int), cutL (a :: b :: c) (p : Int).toNat (IntKind.i64.wrap ((p : Int) + (n : Int))).toNat, cutL (a :: b :: c) 0 (IntKind.i64.wrap ((p : Int) + (n : Int))).toNat), cutL (a :: b :: c) (IntKind.i64.wrap ((p : Int) + (n : Int))).toNat (c.length + 1 + 1), 0)
                else none else none else none else none else none else none else none else none : Option ((Int × Bs × Bs) × Bs × Int)) = some (readP (a :: b :: c)) := by
            intro p n hh hp hn
            have := read_end (s := a :: b :: c) hh (by simp; omega)
            rw [w64 (x := ((c.length + 1 + 1 : Nat) : Int) - (p : Int)) (by omega) (by omega), w64 (x := (p : Int) + (n : Int)) (by omega) (by omega), w64 (x := ((a.toNat : Nat) : Int)) (by omega) (by omega)]
            rw [← this]
            show (if ((c.length + 1 + 1 : Nat) : Int) - (p : Int) < (n : Int) then _ else _) = (if ((c.length + 1 + 1 : Nat) : Int) - (p : Int) < (n : Int) then _ else _)
            by_cases hlt : ((c.length + 1 + 1 : Nat) : Int) - (p : Int) < (n : Int)
            · rw [if_pos hlt, if_pos hlt]
            · rw [if_neg hlt, if_neg hlt, if_pos (by omega), if_pos (by omega), if_pos (by omega), if_pos (by omega), if_pos (by omega), if_pos (by omega), if_pos (by omega), if_pos (by omega)]
              rw [show ((p : Int) + (n : Int)).toNat = p + n by omega, Int.toNat_natCast]
              rfl
          by_cases h128 : b.toNat < 128
          · rw [if_neg (by omega)]
            exact hend 2 b.toNat (by simp [Sp.head, h31, h128]) (by omega) (by omega)
          · rw [if_pos (by omega)]
            obtain ⟨k, hk⟩ : ∃ k : Nat, b.toNat = 128 + k := ⟨b.toNat - 128, by omega⟩
            rw [w64 (x := ((b.toNat : Nat) : Int) - 128) (by omega) (by omega), show ((b.toNat : Nat) : Int) - 128 = (k : Int) by omega, w64 (x := 2 + (k : Int)) (by omega) (by omega)]
            by_cases hlen : c.length < k
            · rw [if_pos (by omega)]
              have : Sp.err (a :: b :: c) = 3 := by simp [Sp.err, Sp.rd, Sp.head, h31, h128, h6, show b.toNat - 128 = k by omega, hlen]
              unfold readP
              rw [this]
              rfl
            · rw [if_neg (by omega)]
              have hd := fun kx => dig_loop_ref (ρ := (Int × Bs × Bs) × Bs × Int) N (a :: b :: c) k (by omega) (by simp; omega) (by simp; omega) hN kx
              refine Eq.trans (hd _) ?_
              show (if (0 : Int) ≤ (k : Int) then _ else _) = _
              have hdr : ((a :: b :: c).drop 2).take k = c.take k := rfl
              rw [hdr, if_pos (by omega), if_pos (by omega), Int.toNat_natCast, if_pos (by omega), least_ref k (by omega) (by omega)]
              by_cases hbad : Sp.beNat (c.take k) < Sp.leastOf k ∨ 131072 < Sp.beNat (c.take k)
              · have : Sp.err (a :: b :: c) = 6 := by simp [Sp.err, Sp.rd, Sp.head, h31, h128, h6, show b.toNat - 128 = k by omega, hlen, hbad]
                unfold readP
                rw [if_pos (by omega), this]
                rfl
              · rw [if_neg (by omega)]
                have := hend (2 + k) (Sp.beNat (c.take k)) (by simp [Sp.head, h31, h128, h6, show b.toNat - 128 = k by omega, hlen, hbad]) (by omega) (by omega)
                rw [show (((2 + k : Nat)) : Int) = 2 + (k : Int) by omega] at this
                exact this

/-! ### one element -/
def oneP (s : Bs) : (Int × Bs × Bs) × Int := if Sp.oneErr s = 0 then (elemP s, 0) else ((0, [], []), Sp.oneErr s)
theorem oneErr_ok {s : Bs} (h : Sp.oneErr s = 0) : Sp.err s = 0 ∧ Sp.rest s = [] := by
  unfold Sp.oneErr at h
  by_cases he : Sp.err s = 0
  · rw [if_neg (by simp [he])] at h
    by_cases hr : Sp.rest s = []
    · exact ⟨he, hr⟩
    · rw [if_neg hr] at h; cases h
  · rw [if_pos he] at h; exact absurd h he
theorem tlv_One_eq (N : Nat) (s : Bs) (hN : 4 < N) (hs : s.length ≤ 1099511627776) : tlv_One N s = some (oneP s) := by
  unfold tlv_One
  rw [tlv_Read_eq N s hN hs, callO_s]
  unfold readP oneP Sp.oneErr
  by_cases he : Sp.err s = 0
  · rw [if_pos he]
    by_cases hr : Sp.rest s = []
    · simp [he, hr, bif_ite]
    · simp [he, hr, bif_ite]
  · rw [if_neg he]
    simp [he, bif_ite]
theorem ref01_One_eq (N : Nat) (s : Bs) (hN : 4 < N) (hs : s.length ≤ 1099511627776) : ref01_One N s = some (oneP s) := by
  unfold ref01_One
  rw [ref01_Read_eq N s hN hs, callO_s]
  unfold readP oneP Sp.oneErr
  by_cases he : Sp.err s = 0
  · rw [if_pos he]
    by_cases hr : Sp.rest s = []
    · simp [he, hr]
    · have : 0 < (Sp.rest s).length := by cases h : Sp.rest s with | nil => exact absurd h hr | cons _ _ => simp
      simp [he, hr, this, bif_ite]
  · rw [if_neg he]
    simp [he, bif_ite]

/-! ### what is nested -/
theorem tag_lt (s : Bs) : Sp.tag s < 256 := UInt8.toNat_lt _
/-- what is left of an element in n elements at depth d -/
def innerP (e : Int × Bs × Bs) (d : Nat) : Int := if e.1 / 32 % 2 = 1 then Sp.within (e.2.1.length + 1) d e.2.1 else 0
theorem inner_fuel : ∀ (f g d : Nat) (l : Bs), l.length < f → l.length < g → Sp.within f d l = Sp.within g d l := by
  intro f
  induction f with
  | zero => intro g d l h; omega
  | succ f ih =>
    intro g d l hf hg
    cases g with
    | zero => omega
    | succ g =>
      show (if l = [] then _ else _) = if l = [] then _ else _
      by_cases hl : l = []
      · rw [if_pos hl, if_pos hl]
      · rw [if_neg hl, if_neg hl]
        by_cases he : Sp.err l = 0
        · have h1 := Sp.content_lt l he
          have h2 := Sp.rest_lt l he
          rw [ih g (d + 1) (Sp.content l) (by omega) (by omega), ih g d (Sp.rest l) (by omega) (by omega)]
        · rw [if_pos he, if_pos he]
/-- the loop over what an element holds -/
theorem within_loop {B : Bs → (Bs → Option Int) → (Unit → Option Int) → Option Int} {kx : Unit → Option Int} (d L : Nat)
    (hB : ∀ x k, x ≠ [] → x.length ≤ L → B x k kx = if Sp.err x ≠ 0 then some (Sp.err x) else if 16 ≤ d then some 8 else if innerP (elemP x) (d + 1) ≠ 0 then some (innerP (elemP x) (d + 1)) else k (Sp.rest x))
    (hend : ∀ k, B [] k kx = some 0) (N : Nat) (x : Bs) (hx : x.length ≤ L) (hN : x.length < N) : iterG B N x kx = some (Sp.within (x.length + 1) d x) := by
  refine iterG_of (fun x => x.length ≤ L) (fun x => x.length) (fun x => some (Sp.within (x.length + 1) d x)) ?_ N x hx hN
  intro x hx k hk
  by_cases h0 : x = []
  · subst h0; rw [hend]; rfl
  · rw [hB x k h0 hx]
    by_cases he : Sp.err x = 0
    · rw [if_neg (by simp [he])]
      by_cases hd : 16 ≤ d
      · rw [if_pos hd, Sp.within_deep _ _ _ h0 he hd]
      · rw [if_neg hd]
        have h1 := Sp.content_lt x he
        have h2 := Sp.rest_lt x he
        have hin : innerP (elemP x) (d + 1) = Sp.inner x.length (d + 1) (Sp.tag x) (Sp.content x) := by
          unfold innerP Sp.inner Sp.cons elemP
          rw [inner_fuel _ x.length (d + 1) (Sp.content x) (Nat.lt_succ_self _) h1]
          have : (((Sp.tag x : Nat) : Int) / 32 % 2 = 1) ↔ (Sp.tag x / 32 % 2 = 1) := by omega
          simp [this]
        rw [hin]
        by_cases hi : Sp.inner x.length (d + 1) (Sp.tag x) (Sp.content x) = 0
        · rw [if_neg (by simp [hi]), hk _ (by show (Sp.rest x).length ≤ L; omega) h2, Sp.within_step _ _ _ h0 he hd hi]
          rw [inner_fuel _ x.length d (Sp.rest x) (Nat.lt_succ_self _) h2]
        · rw [if_pos hi, Sp.within_bad _ _ _ h0 he hd hi]
    · rw [if_pos he, Sp.within_err _ _ _ h0 he]
theorem within_eq (N : Nat) (hN : 4 < N) : ∀ (m n : Nat), m < n → ∀ (e : Int × Bs × Bs) (d : Nat), d + m = 16 → 0 ≤ e.1 → e.1 < 256 → e.2.1.length < N → e.2.1.length ≤ 1099511627776 →
    tlv_within N n e (d : Int) = some (innerP e d) := by
  intro m
  induction m with
  | zero =>
    intro n hn e d hd h0 h1 h2 h3
    obtain ⟨n, rfl⟩ : ∃ k, n = k + 1 := ⟨n - 1, by omega⟩
    show tlv_within_body N (tlv_within N n) e d = _
    unfold tlv_within_body innerP
    obtain ⟨t, ht⟩ : ∃ t : Nat, e.1 = (t : Int) := ⟨e.1.toNat, by omega⟩
    rw [ht, and32 t (by omega)]
    by_cases hc : t / 32 % 2 = 1
    · rw [if_pos hc, if_pos (by omega)]
      refine within_loop d e.2.1.length (fun x k hx hl => ?_) (fun k => rfl) N _ (Nat.le_refl _) h2
      have : (x == ([] : Bs)) = false := by cases x with | nil => exact absurd rfl hx | cons _ _ => rfl
      dsimp only
      rw [this, tlv_Read_eq N x hN (by omega), callO_s]
      unfold readP
      simp only [bif_ite, bne_iff_ne, decide_eq_true_eq, Bool.not_false]
      by_cases he : Sp.err x = 0
      · rw [if_pos he]
        simp only [he, ne_eq, not_true_eq_false, if_false, if_true]
        rw [if_pos (by omega), if_pos (by omega)]
      · rw [if_neg he]
        simp [he]
    · rw [if_neg hc, if_neg (by omega)]; rfl
  | succ m ih =>
    intro n hn e d hd h0 h1 h2 h3
    obtain ⟨n, rfl⟩ : ∃ k, n = k + 1 := ⟨n - 1, by omega⟩
    show tlv_within_body N (tlv_within N n) e d = _
    unfold tlv_within_body innerP
    obtain ⟨t, ht⟩ : ∃ t : Nat, e.1 = (t : Int) := ⟨e.1.toNat, by omega⟩
    rw [ht, and32 t (by omega)]
    by_cases hc : t / 32 % 2 = 1
    · rw [if_pos hc, if_pos (by omega)]
      refine within_loop d e.2.1.length (fun x k hx hl => ?_) (fun k => rfl) N _ (Nat.le_refl _) h2
      have : (x == ([] : Bs)) = false := by cases x with | nil => exact absurd rfl hx | cons _ _ => rfl
      dsimp only
      rw [this, tlv_Read_eq N x hN (by omega), callO_s]
      unfold readP
      simp only [bif_ite, bne_iff_ne, decide_eq_true_eq, Bool.not_false]
      by_cases he : Sp.err x = 0
      · rw [if_pos he]
        simp only [he, ne_eq, not_true_eq_false, if_false, if_true]
        have hcl := Sp.content_lt x he
        have htl := tag_lt x
        rw [if_neg (by omega), if_neg (by omega), w64 (by omega) (by omega), show (d : Int) + 1 = ((d + 1 : Nat) : Int) by omega, ih n (by omega) (elemP x) (d + 1) (by omega) (by show (0 : Int) ≤ ((Sp.tag x : Nat) : Int); omega) (by show ((Sp.tag x : Nat) : Int) < 256; omega) (by show (Sp.content x).length < N; omega) (by show (Sp.content x).length ≤ _; omega), callO_s]
      · rw [if_neg he]
        simp [he]
    · rw [if_neg hc, if_neg (by omega)]; rfl
theorem check_eq (N : Nat) (hN : 4 < N) : ∀ (m n : Nat), m < n → ∀ (e : Int × Bs × Bs) (d : Nat), d + 1 + m = 16 → 0 ≤ e.1 → e.1 < 256 → e.2.1.length < N → e.2.1.length ≤ 1099511627776 →
    ref01_check N n e (d : Int) = some (innerP e (d + 1)) := by
  intro m
  induction m with
  | zero =>
    intro n hn e d hd h0 h1 h2 h3
    obtain ⟨n, rfl⟩ : ∃ k, n = k + 1 := ⟨n - 1, by omega⟩
    show ref01_check_body N (ref01_check N n) e d = _
    unfold ref01_check_body innerP
    rw [Int.tdiv_eq_ediv_of_nonneg h0, w64 (by omega) (by omega), Int.tmod_eq_emod_of_nonneg (by omega)]
    by_cases hc : e.1 / 32 % 2 = 1
    · rw [if_pos hc, hc]
      refine within_loop (d + 1) e.2.1.length (fun x k hx hl => ?_) (fun k => rfl) N _ (Nat.le_refl _) h2
      have : 0 < x.length := by cases x with | nil => exact absurd rfl hx | cons _ _ => simp
      dsimp only
      rw [ref01_Read_eq N x hN (by omega), callO_s]
      unfold readP
      simp only [bif_ite, bne_iff_ne, decide_eq_true_eq]
      rw [if_pos (by omega), w64 (by omega) (by omega)]
      by_cases he : Sp.err x = 0
      · rw [if_pos he]
        simp only [he, ne_eq, not_true_eq_false, if_false]
        rw [if_pos (by omega), if_pos (by omega)]
      · rw [if_neg he]
        simp [he]
    · rw [if_neg hc, show e.1 / 32 % 2 = 0 by omega]; rfl
  | succ m ih =>
    intro n hn e d hd h0 h1 h2 h3
    obtain ⟨n, rfl⟩ : ∃ k, n = k + 1 := ⟨n - 1, by omega⟩
    show ref01_check_body N (ref01_check N n) e d = _
    unfold ref01_check_body innerP
    rw [Int.tdiv_eq_ediv_of_nonneg h0, w64 (by omega) (by omega), Int.tmod_eq_emod_of_nonneg (by omega)]
    by_cases hc : e.1 / 32 % 2 = 1
    · rw [if_pos hc, hc]
      refine within_loop (d + 1) e.2.1.length (fun x k hx hl => ?_) (fun k => rfl) N _ (Nat.le_refl _) h2
      have : 0 < x.length := by cases x with | nil => exact absurd rfl hx | cons _ _ => simp
      dsimp only
      rw [ref01_Read_eq N x hN (by omega), callO_s]
      unfold readP
      simp only [bif_ite, bne_iff_ne, decide_eq_true_eq]
      rw [if_pos (by omega), w64 (by omega) (by omega)]
      by_cases he : Sp.err x = 0
      · rw [if_pos he]
        simp only [he, ne_eq, not_true_eq_false, if_false]
        have hcl := Sp.content_lt x he
        have htl := tag_lt x
        rw [if_neg (by omega), if_neg (by omega), show (d : Int) + 1 = ((d + 1 : Nat) : Int) by omega, ih n (by omega) (elemP x) (d + 1) (by omega) (by show (0 : Int) ≤ ((Sp.tag x : Nat) : Int); omega) (by show ((Sp.tag x : Nat) : Int) < 256; omega) (by show (Sp.content x).length < N; omega) (by show (Sp.content x).length ≤ _; omega), callO_s]
      · rw [if_neg he]
        simp [he]
    · rw [if_neg hc, show e.1 / 32 % 2 = 0 by omega]; rfl

/-! ### a whole element -/
theorem innerP_chk {s : Bs} (h : Sp.oneErr s = 0) : innerP (elemP s) 1 = Sp.chk s := by
  unfold Sp.chk
  rw [if_neg (by simp [h])]
  unfold innerP Sp.inner Sp.cons elemP
  have h1 := Sp.content_lt s (oneErr_ok h).1
  rw [inner_fuel _ (s.length + 1) 1 (Sp.content s) (Nat.lt_succ_self _) (by omega)]
  have : (((Sp.tag s : Nat) : Int) / 32 % 2 = 1) ↔ (Sp.tag s / 32 % 2 = 1) := by omega
  simp [this]
theorem tlv_Check_eq (N : Nat) (s : Bs) (hN : 16 < N) (hs : s.length ≤ 1099511627776) (hl : s.length < N) : tlv_Check N s = some (Sp.chk s) := by
  unfold tlv_Check
  rw [tlv_One_eq N s (by omega) hs, callO_s]
  unfold oneP
  by_cases h : Sp.oneErr s = 0
  · have h1 := Sp.content_lt s (oneErr_ok h).1
    have h2 := tag_lt s
    rw [if_pos h, ← innerP_chk h]
    have := within_eq N (by omega) 15 N (by omega) (elemP s) 1 rfl (by show (0 : Int) ≤ ((Sp.tag s : Nat) : Int); omega) (by show ((Sp.tag s : Nat) : Int) < 256; omega) (by show (Sp.content s).length < N; omega) (by show (Sp.content s).length ≤ _; omega)
    show callO (tlv_within N N (elemP s) 1) _ = _
    rw [show (1 : Int) = ((1 : Nat) : Int) from rfl, this, callO_s]
  · rw [if_neg h]
    have : Sp.chk s = Sp.oneErr s := by unfold Sp.chk; rw [if_pos h]
    simp [bif_ite, h, this]
theorem ref01_Check_eq (N : Nat) (s : Bs) (hN : 16 < N) (hs : s.length ≤ 1099511627776) (hl : s.length < N) : ref01_Check N s = some (Sp.chk s) := by
  unfold ref01_Check
  rw [ref01_One_eq N s (by omega) hs, callO_s]
  unfold oneP
  by_cases h : Sp.oneErr s = 0
  · have h1 := Sp.content_lt s (oneErr_ok h).1
    have h2 := tag_lt s
    rw [if_pos h, ← innerP_chk h]
    have := check_eq N (by omega) 15 N (by omega) (elemP s) 0 rfl (by show (0 : Int) ≤ ((Sp.tag s : Nat) : Int); omega) (by show ((Sp.tag s : Nat) : Int) < 256; omega) (by show (Sp.content s).length < N; omega) (by show (Sp.content s).length ≤ _; omega)
    show callO (ref01_check N N (elemP s) 0) _ = _
    rw [show (0 : Int) = ((0 : Nat) : Int) from rfl, this, callO_s]
  · rw [if_neg h]
    have : Sp.chk s = Sp.oneErr s := by unfold Sp.chk; rw [if_pos h]
    simp [bif_ite, h, this]
end Go.Proofs.YtegnjlmdppobmaaGreat.Pl

/-
  Bundles: what their checks compute. No program in sight.
-/
namespace Go.Proofs.YtegnjlmdppobmaaGreat.Pl
open Go Vm

theorem chk_ne {s : Bs} (h : Sp.chk s = 0) : s ≠ [] := by
  intro e; subst e; revert h; decide
theorem tag_getD (s : Bs) : ((s.getD 0 0).toNat) = Sp.tag s := by unfold Sp.tag; cases s <;> rfl
theorem pos_of_ne {α : Type} {s : List α} (h : s ≠ []) : 0 < s.length := by cases s with | nil => exact absurd rfl h | cons _ _ => simp
theorem checkOne_eq (N : Nat) (s : Bs) (hN : 16 < N) (hs : s.length ≤ 1099511627776) (hl : s.length < N) : bundle_checkOne N s = some (Sp.seqErr s) := by
  unfold bundle_checkOne Sp.seqErr
  rw [tlv_Check_eq N s hN hs hl, callO_s]
  by_cases h : Sp.chk s = 0
  · have := pos_of_ne (chk_ne h)
    by_cases ht : Sp.tag s = 48
    · have hti : ((Sp.tag s : Nat) : Int) = 48 := by omega
      simp only [h, chk_if, bif_ite, tag_getD, ht]
      rw [if_neg (by decide), if_pos (by omega), if_neg (by decide)]
      rfl
    · have hti : ((Sp.tag s : Nat) : Int) ≠ 48 := by omega
      simp only [h, chk_if, bif_ite, tag_getD, bne_iff_ne]
      rw [if_neg (by simp), if_pos (by omega), if_pos hti, if_neg (by simp), if_neg ht]
  · simp [bif_ite, h]
theorem sequence_eq (N : Nat) (s : Bs) (hN : 16 < N) (hs : s.length ≤ 1099511627776) (hl : s.length < N) : ref14_sequence N s = some (Sp.seqErr s) := by
  unfold ref14_sequence Sp.seqErr
  rw [ref01_Check_eq N s hN hs hl, callO_s]
  by_cases h : Sp.chk s = 0
  · have := pos_of_ne (chk_ne h)
    by_cases ht : Sp.tag s = 48
    · have hti : ((Sp.tag s : Nat) : Int) = 48 := by omega
      simp only [h, chk_if, bif_ite, tag_getD, ht]
      rw [if_neg (by decide), if_pos (by omega), if_neg (by decide)]
      rfl
    · have hti : ((Sp.tag s : Nat) : Int) ≠ 48 := by omega
      simp only [h, chk_if, bif_ite, tag_getD, bne_iff_ne]
      rw [if_neg (by simp), if_pos (by omega), if_pos hti, if_neg (by simp), if_neg ht]
  · simp [bif_ite, h]

def optE (s : Bs) : Int := if s = [] then 0 else Sp.seqErr s
def pairE (p : Bs × Bs) : Int := if p.1 = [] ∧ p.2 = [] then 7 else firstE optE [p.1, p.2]
abbrev Bundle := List Bs × List Bs × List (Bs × Bs)
def bundleE (b : Bundle) : Int :=
  if (64 < b.1.length ∨ 64 < b.2.1.length) ∨ 64 < b.2.2.length then 2
  else if firstE (firstE Sp.seqErr) [b.1, b.2.1] ≠ 0 then firstE (firstE Sp.seqErr) [b.1, b.2.1] else firstE pairE b.2.2
/-- strings that are not too long -/
def fitS (N : Nat) (s : Bs) : Prop := s.length ≤ 1099511627776 ∧ s.length < N
structure Fit (N : Nat) (b : Bundle) : Prop where
  c : ∀ s ∈ b.1, fitS N s
  l : ∀ s ∈ b.2.1, fitS N s
  p : ∀ q ∈ b.2.2, fitS N q.1 ∧ fitS N q.2
theorem eq_nil_beq (s : Bs) : (s == ([] : Bs)) = decide (s = []) := by cases s <;> rfl
/-- the two halves of a pair -/
theorem halves_eq {ρ : Type} (one : Bs → Option Int) (N : Nat) (f r : Bs) (hN : 64 < N) (hf : one f = some (Sp.seqErr f)) (hr : one r = some (Sp.seqErr r)) (ret : Int → Option ρ) (fin : Option ρ) :
    iterG (X := Int × List Bs) (Y := Unit) (U2 fun t20a l37376a k1 x2 =>
      bif decide (t20a < (2 : Int)) then (Vm.chk (decide ((0 : Int) ≤ t20a)) <|
      Vm.chk (decide (t20a < (l37376a.length : Int))) <|
      Vm.chk (decide (t20a.toNat < l37376a.length)) <|
      bif ((l37376a.getD t20a.toNat ([] : Bs)) == ([] : Bs)) then (k1 (IntKind.i64.wrap (t20a + (1 : Int)), l37376a))
      else (callO (one (l37376a.getD t20a.toNat ([] : Bs))) fun r27 =>
      bif (r27 != (0 : Int)) then (ret r27)
      else (k1 (IntKind.i64.wrap (t20a + (1 : Int)), l37376a))))
      else (x2 ())) N (0, ([f, r] : List Bs)) (fun _ => fin) = if firstE optE [f, r] ≠ 0 then ret (firstE optE [f, r]) else fin := by
  rw [iterG_each (S := Unit) (fun i _ => (i, ([f, r] : List Bs))) [f, r] ([] : Bs) (fun e _ k => if optE e ≠ 0 then ret (optE e) else k ()) (fun _ => fin) ?_ (fun _ _ => rfl) N () (by simp; omega)]
  · exact eachG_first optE ret _ _ _ _ (fun _ _ _ _ => rfl)
  · intro i s k hi
    have hi' : i < 2 := hi
    show (bif decide ((i : Int) < 2) then _ else _) = _
    simp only [chk_if, bif_if, Int.toNat_natCast, eq_nil_beq]
    rw [if_pos (by omega), if_pos (by omega), if_pos (by show (i : Int) < 2; omega), if_pos (by show i < 2; omega), w64 (by omega) (by omega)]
    have he : ([f, r] : List Bs).getD i [] = f ∨ ([f, r] : List Bs).getD i [] = r := by
      have : i = 0 ∨ i = 1 := by omega
      rcases this with rfl | rfl
      · left; rfl
      · right; rfl
    generalize ([f, r] : List Bs).getD i [] = e at he
    have ho : one e = some (Sp.seqErr e) := by rcases he with rfl | rfl <;> assumption
    unfold optE
    by_cases h0 : e = []
    · rw [if_pos h0, if_pos h0]; rfl
    · rw [if_neg h0, if_neg h0, ho, callO_s]
      simp only [bif_ite, bne_iff_ne]
theorem checkPair_eq (N : Nat) (p : Bs × Bs) (hN : 64 < N) (h1 : fitS N p.1) (h2 : fitS N p.2) : bundle_checkPair N p = some (pairE p) := by
  unfold bundle_checkPair
  simp only [chk_or', chk_bif', chk_bif'']
  rw [halves_eq (bundle_checkOne N) N p.1 p.2 hN (checkOne_eq N _ (by omega) h1.1 h1.2) (checkOne_eq N _ (by omega) h2.1 h2.2) (fun r => some r) (some 0)]
  simp only [bif_and]
  simp only [bif_ite, Bool.and_eq_true, beq_iff_eq]
  unfold pairE
  by_cases h : p.1 = [] ∧ p.2 = []
  · rw [if_pos h, if_pos h]
  · rw [if_neg h, if_neg h]
    by_cases hz : firstE optE [p.1, p.2] = 0
    · simp [hz]
    · rw [if_pos hz]
/-- the loop over one list of elements -/
theorem ones_eq {ρ : Type} (one : Bs → Option Int) (N : Nat) {X : Type} (mk : Int → X) (l : List Bs) (hN : l.length < N) (hl : l.length ≤ 64) (ho : ∀ s ∈ l, one s = some (Sp.seqErr s)) (ret : Int → Option ρ) (fin : Option ρ) {Y : Type} {B : X → (X → Option ρ) → (Y → Option ρ) → Option ρ} {kx : Y → Option ρ}
    (hB : ∀ (i : Nat) k, i < l.length → B (mk i) k kx = callO (one (l.getD i [])) fun r => bif (r != (0 : Int)) then ret r else k (mk (IntKind.i64.wrap ((i : Int) + 1)))) (hend : ∀ k, B (mk (l.length : Int)) k kx = fin) :
    iterG B N (mk 0) kx = if firstE Sp.seqErr l ≠ 0 then ret (firstE Sp.seqErr l) else fin := by
  rw [iterG_each (S := Unit) (fun i _ => mk i) l ([] : Bs) (fun e _ k => if Sp.seqErr e ≠ 0 then ret (Sp.seqErr e) else k ()) (fun _ => fin) ?_ (fun _ k => hend k) N () hN]
  · exact eachG_first Sp.seqErr ret _ _ _ _ (fun _ _ _ _ => rfl)
  · intro i s k hi
    dsimp only
    rw [hB i k hi, ho _ (by rw [List.getD_eq_getElem?_getD, List.getElem?_eq_getElem hi]; exact List.getElem_mem hi), callO_s, w64 (by omega) (by omega)]
    simp only [bif_ite, bne_iff_ne]
theorem getD_mem {α : Type} {l : List α} {i : Nat} (d : α) (h : i < l.length) : l.getD i d ∈ l := by rw [List.getD_eq_getElem?_getD, List.getElem?_eq_getElem h]; exact List.getElem_mem h
set_option maxRecDepth 2000 in
theorem Check_eq (N : Nat) (b : Bundle) (hN : 64 < N) (hb : Fit N b) : bundle_Check N b = some (bundleE b) := by
  obtain ⟨c, l, p⟩ := b
  unfold bundle_Check
  simp only [chk_or, chk_or', chk_ort, chk_bif, chk_bif', bif_or]
  unfold bundleE
  by_cases hm : (64 < c.length ∨ 64 < l.length) ∨ 64 < p.length
  · rw [if_pos hm]
    simp only [bif_ite, Bool.or_eq_true, decide_eq_true_eq]
    rw [if_pos (by omega)]
  · rw [if_neg hm]
    rw [show (decide ((c.length : Int) > 64) || decide ((l.length : Int) > 64) || decide ((p.length : Int) > 64)) = false by simp; omega, cond_false]
    have hfit : ∀ e ∈ ([c, l] : List (List Bs)), ∀ s ∈ e, fitS N s := by
      intro e he s hs
      rcases List.mem_cons.1 he with rfl | he
      · exact hb.c s hs
      · rcases List.mem_cons.1 he with rfl | he
        · exact hb.l s hs
        · cases he
    have hlen : ∀ e ∈ ([c, l] : List (List Bs)), e.length ≤ 64 := by
      intro e he
      rcases List.mem_cons.1 he with rfl | he
      · omega
      · rcases List.mem_cons.1 he with rfl | he
        · omega
        · cases he
    rw [iterG_each (S := Unit) (fun i _ => (i, c, l, p, ([c, l] : List (List Bs)))) [c, l] ([] : List Bs) (fun e _ k => if firstE Sp.seqErr e ≠ 0 then some (firstE Sp.seqErr e) else k ()) (fun _ => some (firstE pairE p)) ?_ ?_ N () (by simp; omega)]
    · rw [eachG_first (firstE Sp.seqErr) (fun r => some r) _ _ _ _ (fun _ _ _ _ => rfl)]
      dsimp only
      split <;> rfl
    · intro i _ k hi
      have hi' : i < 2 := hi
      have hmem := getD_mem ([] : List Bs) (show i < ([c, l] : List (List Bs)).length from hi)
      show (bif decide ((i : Int) < 2) then _ else _) = _
      simp only [chk_if, bif_if, Int.toNat_natCast]
      rw [if_pos (by omega), if_pos (by omega), if_pos (by show (i : Int) < 2; omega), if_pos (by show i < 2; omega)]
      rw [ones_eq (bundle_checkOne N) N (fun t => (t, c, l, p, ([c, l] : List (List Bs)))) (([c, l] : List (List Bs)).getD i []) (by have := hlen _ hmem; omega) (hlen _ hmem) (fun s hs => checkOne_eq N s (by omega) (hfit _ hmem s hs).1 (hfit _ hmem s hs).2) (fun r => some r) (k ((i : Int) + 1, c, l, p, ([c, l] : List (List Bs))))]
      · intro j k' hj
        show (if (j : Int) < ((([c, l] : List (List Bs)).getD i []).length : Int) then _ else _) = _
        rw [if_pos (by omega), if_pos (by omega), if_pos (by omega), Int.toNat_natCast]
      · intro k'
        show (if ((([c, l] : List (List Bs)).getD i []).length : Int) < ((([c, l] : List (List Bs)).getD i []).length : Int) then _ else _) = _
        rw [if_neg (by omega)]
        show k (IntKind.i64.wrap ((i : Int) + 1), c, l, p, _) = _
        rw [w64 (by omega) (by omega)]
    · intro _ k
      show iterG _ N 0 _ = _
      rw [iterG_each (S := Unit) (fun i _ => i) p (([] : Bs), ([] : Bs)) (fun e _ k => if pairE e ≠ 0 then some (pairE e) else k ()) (fun _ => some 0) ?_ ?_ N () (by omega)]
      · rw [eachG_first pairE (fun r => some r) _ _ _ _ (fun _ _ _ _ => rfl)]
        by_cases hz : firstE pairE p = 0
        · simp [hz]
        · rw [if_pos hz]
      · intro i _ k hi
        simp only [chk_if, bif_if, Int.toNat_natCast]
        have hm := getD_mem (([] : Bs), ([] : Bs)) hi
        rw [if_pos (by omega), if_pos (by omega), if_pos (by omega), checkPair_eq N _ hN (hb.p _ hm).1 (hb.p _ hm).2, callO_s, w64 (by omega) (by omega)]
        simp only [bif_ite, bne_iff_ne]
      · intro _ k
        simp only [bif_if]
        rw [if_neg (by omega)]
set_option maxRecDepth 2000 in
theorem CheckBundle_eq (N : Nat) (b : Bundle) (hN : 64 < N) (hb : Fit N b) : ref14_CheckBundle N b = some (bundleE b) := by
  obtain ⟨c, l, p⟩ := b
  unfold ref14_CheckBundle
  simp only [chk_or, chk_or', chk_ort, chk_bif, chk_bif', chk_bif'', bif_or, bif_and]
  unfold bundleE
  by_cases hm : (64 < c.length ∨ 64 < l.length) ∨ 64 < p.length
  · rw [if_pos hm]
    simp only [bif_ite, Bool.or_eq_true, decide_eq_true_eq]
    rw [if_pos (by omega)]
  · rw [if_neg hm]
    rw [show (decide ((c.length : Int) > 64) || decide ((l.length : Int) > 64) || decide ((p.length : Int) > 64)) = false by simp; omega, cond_false]
    have hfit : ∀ e ∈ ([c, l] : List (List Bs)), ∀ s ∈ e, fitS N s := by
      intro e he s hs
      rcases List.mem_cons.1 he with rfl | he
      · exact hb.c s hs
      · rcases List.mem_cons.1 he with rfl | he
        · exact hb.l s hs
        · cases he
    have hlen : ∀ e ∈ ([c, l] : List (List Bs)), e.length ≤ 64 := by
      intro e he
      rcases List.mem_cons.1 he with rfl | he
      · omega
      · rcases List.mem_cons.1 he with rfl | he
        · omega
        · cases he
    rw [iterG_each (S := Unit) (fun i _ => (i, c, l, p, ([c, l] : List (List Bs)))) [c, l] ([] : List Bs) (fun e _ k => if firstE Sp.seqErr e ≠ 0 then some (firstE Sp.seqErr e) else k ()) (fun _ => some (firstE pairE p)) ?_ ?_ N () (by simp; omega)]
    · rw [eachG_first (firstE Sp.seqErr) (fun r => some r) _ _ _ _ (fun _ _ _ _ => rfl)]
      dsimp only
      split <;> rfl
    · intro i _ k hi
      have hi' : i < 2 := hi
      have hmem := getD_mem ([] : List Bs) (show i < ([c, l] : List (List Bs)).length from hi)
      show (bif decide ((i : Int) < 2) then _ else _) = _
      simp only [chk_if, bif_if, Int.toNat_natCast]
      rw [if_pos (by omega), if_pos (by omega), if_pos (by show (i : Int) < 2; omega), if_pos (by show i < 2; omega)]
      rw [ones_eq (ref14_sequence N) N (fun t => (t, c, l, p, ([c, l] : List (List Bs)))) (([c, l] : List (List Bs)).getD i []) (by have := hlen _ hmem; omega) (hlen _ hmem) (fun s hs => sequence_eq N s (by omega) (hfit _ hmem s hs).1 (hfit _ hmem s hs).2) (fun r => some r) (k ((i : Int) + 1, c, l, p, ([c, l] : List (List Bs))))]
      · intro j k' hj
        show (if (j : Int) < ((([c, l] : List (List Bs)).getD i []).length : Int) then _ else _) = _
        rw [if_pos (by omega), if_pos (by omega), if_pos (by omega), Int.toNat_natCast]
      · intro k'
        show (if ((([c, l] : List (List Bs)).getD i []).length : Int) < ((([c, l] : List (List Bs)).getD i []).length : Int) then _ else _) = _
        rw [if_neg (by omega)]
        show k (IntKind.i64.wrap ((i : Int) + 1), c, l, p, _) = _
        rw [w64 (by omega) (by omega)]
    · intro _ k
      show iterG _ N 0 _ = _
      rw [iterG_each (S := Unit) (fun i _ => i) p (([] : Bs), ([] : Bs)) (fun e _ k => if pairE e ≠ 0 then some (pairE e) else k ()) (fun _ => some 0) ?_ ?_ N () (by omega)]
      · rw [eachG_first pairE (fun r => some r) _ _ _ _ (fun _ _ _ _ => rfl)]
        by_cases hz : firstE pairE p = 0
        · simp [hz]
        · rw [if_pos hz]
      · intro i _ k hi
        have hm := getD_mem (([] : Bs), ([] : Bs)) hi
        dsimp only
        rw [bif_if, if_pos (by omega), chk_if, if_pos (by omega), chk_if, if_pos (by omega), Int.toNat_natCast]
        have h1 := (hb.p _ hm).1
        have h2 := (hb.p _ hm).2
        rw [halves_eq (ref14_sequence N) N _ _ hN (sequence_eq N _ (by omega) h1.1 h1.2) (sequence_eq N _ (by omega) h2.1 h2.2) (fun r => some r) (k (IntKind.i64.wrap ((i : Int) + 1)))]
        rw [w64 (by omega) (by omega)]
        generalize p.getD i (([] : Bs), ([] : Bs)) = q
        unfold pairE
        simp only [bif_ite, Bool.and_eq_true, beq_iff_eq]
        by_cases h : q.1 = [] ∧ q.2 = []
        · rw [if_pos h, if_pos h, if_pos (by decide)]
        · rw [if_neg h, if_neg h]
      · intro _ k
        simp only [bif_if]
        rw [if_neg (by omega)]
end Go.Proofs.YtegnjlmdppobmaaGreat.Pl

/-
  Lists of elements and what two readers do with them. The plain law of BundleDecode, part 1.
-/
namespace Go.Proofs.YtegnjlmdppobmaaGreat.Pl
open Go Vm

abbrev El := Int × Bs × Bs
/-! ### an element that was cut off reads the same -/
theorem head_take (l : List UInt8) (n : Nat) (h : (Sp.head l).1 = 0) (hn : (Sp.head l).2.1 ≤ n) : Sp.head (l.take n) = Sp.head l := by
  match l, h, hn with
  | [], _, _ => simp
  | t :: r, h, hn =>
    by_cases h31 : t.toNat % 32 = 31
    · simp [Sp.head, h31] at h
    · match r, h, hn with
      | [], h, _ => simp [Sp.head, h31] at h
      | m :: r, h, hn =>
        have h2 := (Sp.head_ok _ h).1
        obtain ⟨k, rfl⟩ : ∃ k, n = k + 2 := ⟨n - 2, by omega⟩
        rw [List.take_succ_cons, List.take_succ_cons]
        by_cases h128 : m.toNat < 128
        · simp [Sp.head, h31, h128]
        · by_cases h6 : m.toNat = 128 ∨ 131 < m.toNat
          · simp [Sp.head, h31, h128, h6] at h
          · by_cases hlen : r.length < m.toNat - 128
            · simp [Sp.head, h31, h128, h6, hlen] at h
            · by_cases hb : Sp.beNat (r.take (m.toNat - 128)) < Sp.leastOf (m.toNat - 128) ∨ 131072 < Sp.beNat (r.take (m.toNat - 128))
              · simp [Sp.head, h31, h128, h6, hlen, hb] at h
              · have hp : 2 + (m.toNat - 128) ≤ k + 2 := by
                  have e : Sp.head (t :: m :: r) = (0, 2 + (m.toNat - 128), Sp.beNat (r.take (m.toNat - 128))) := by
                    show (if t.toNat % 32 = 31 then _ else if m.toNat < 128 then _ else if _ then _ else if _ then _ else if _ then _ else _) = _
                    rw [if_neg h31, if_neg h128, if_neg h6, if_neg hlen, if_neg hb]
                  rw [e] at hn; exact hn
                have e : (r.take k).take (m.toNat - 128) = r.take (m.toNat - 128) := by rw [List.take_take, Nat.min_eq_left (by omega)]
                have hlen' : ¬ (r.take k).length < m.toNat - 128 := by rw [List.length_take]; omega
                show (if t.toNat % 32 = 31 then _ else if m.toNat < 128 then _ else if _ then _ else if _ then _ else if _ then _ else _) = (if t.toNat % 32 = 31 then _ else if m.toNat < 128 then _ else if _ then _ else if _ then _ else if _ then _ else _)
                rw [e, if_neg hlen', if_neg hlen]
theorem rd_raw {s : Bs} (h : Sp.err s = 0) : Sp.rd (Sp.raw s) = Sp.rd s := by
  have hk := Sp.rd_ok s h
  have hh : Sp.rd s = Sp.head s := by
    unfold Sp.err Sp.rd at h
    unfold Sp.rd
    by_cases hc : (Sp.head s).1 = 0 ∧ s.length - (Sp.head s).2.1 < (Sp.head s).2.2
    · rw [if_pos hc] at h; cases h
    · rw [if_neg hc]
  have h0 : (Sp.head s).1 = 0 := by rw [← hh]; exact h
  have ht : Sp.head (Sp.raw s) = Sp.head s := head_take s _ h0 (by rw [hh]; omega)
  have hl := Sp.raw_length s h
  rw [hh] at hl hk
  rw [hh]
  show (if (Sp.head (Sp.raw s)).1 = 0 ∧ (Sp.raw s).length - (Sp.head (Sp.raw s)).2.1 < (Sp.head (Sp.raw s)).2.2 then (3, 0, 0) else Sp.head (Sp.raw s)) = Sp.head s
  rw [ht, if_neg (by omega)]
theorem one_raw {s : Bs} (h : Sp.err s = 0) : oneP (Sp.raw s) = (elemP s, 0) := by
  have hr := rd_raw h
  have hk := Sp.rd_ok s h
  have hl := Sp.raw_length s h
  have he : Sp.err (Sp.raw s) = 0 := by unfold Sp.err; rw [hr]; exact h
  have hrest : Sp.rest (Sp.raw s) = [] := by unfold Sp.rest; rw [hr, List.drop_eq_nil_iff]; omega
  have h1 : Sp.oneErr (Sp.raw s) = 0 := by unfold Sp.oneErr; rw [if_neg (by simp [he]), if_pos hrest]
  unfold oneP
  rw [if_pos h1]
  have ec : Sp.content (Sp.raw s) = Sp.content s := by
    unfold Sp.content; rw [hr]; unfold Sp.raw
    rw [List.drop_take, List.take_take, show min (Sp.rd s).2.2 ((Sp.rd s).2.1 + (Sp.rd s).2.2 - (Sp.rd s).2.1) = (Sp.rd s).2.2 by omega]
  have er : Sp.raw (Sp.raw s) = Sp.raw s := by
    show List.take ((Sp.rd (Sp.raw s)).2.1 + (Sp.rd (Sp.raw s)).2.2) (Sp.raw s) = Sp.raw s
    rw [hr]; exact List.take_of_length_le (by omega)
  have et : Sp.tag (Sp.raw s) = Sp.tag s := by
    unfold Sp.raw Sp.tag
    obtain ⟨k, hk'⟩ : ∃ k, (Sp.rd s).2.1 + (Sp.rd s).2.2 = k + 1 := ⟨(Sp.rd s).2.1 + (Sp.rd s).2.2 - 1, by omega⟩
    rw [hk']
    cases s <;> rfl
  unfold elemP
  rw [ec, er, et]

/-! ### a list of elements -/
def listF : Nat → Bs → List El → List El × Int
  | 0, _, a => (a, 0)
  | f + 1, s, a => if s = [] then (a, 0) else if Sp.err s ≠ 0 then ([], Sp.err s) else listF f (Sp.rest s) (a ++ [elemP s])
def listP (s : Bs) : List El × Int := listF (s.length + 1) s []
theorem listF_fuel : ∀ (f g : Nat) (s : Bs) (a : List El), s.length < f → s.length < g → listF f s a = listF g s a := by
  intro f
  induction f with
  | zero => intro g s a h; omega
  | succ f ih =>
    intro g s a hf hg
    cases g with
    | zero => omega
    | succ g =>
      show (if s = [] then (a, (0 : Int)) else if Sp.err s ≠ 0 then ([], Sp.err s) else listF f (Sp.rest s) (a ++ [elemP s])) = (if s = [] then (a, 0) else if Sp.err s ≠ 0 then ([], Sp.err s) else listF g (Sp.rest s) (a ++ [elemP s]))
      by_cases h : s = []
      · rw [if_pos h, if_pos h]
      · rw [if_neg h, if_neg h]
        by_cases he : Sp.err s = 0
        · have := Sp.rest_lt s he
          rw [if_neg (by simp [he]), if_neg (by simp [he])]
          exact ih g _ _ (by omega) (by omega)
        · rw [if_pos he, if_pos he]
/-- an element of a text of at most M bytes -/
def goodE (M : Nat) (e : El) : Prop := ∃ t : Bs, Sp.err t = 0 ∧ e = elemP t ∧ t.length ≤ M
structure Good (M : Nat) (l : List El) : Prop where
  len : l.length ≤ M
  all : ∀ e ∈ l, goodE M e
  raws : (l.map (·.2.2)).flatten.length ≤ M
theorem goodE.mono {M K : Nat} {e : El} (h : goodE M e) (hk : M ≤ K) : goodE K e := by
  obtain ⟨t, h1, h2, h3⟩ := h; exact ⟨t, h1, h2, by omega⟩
theorem goodE.content {M : Nat} {e : El} (h : goodE M e) : e.2.1.length + 2 ≤ e.2.2.length ∧ e.2.2.length ≤ M ∧ 0 ≤ e.1 ∧ e.1 < 256 := by
  obtain ⟨t, h1, rfl, h3⟩ := h
  have := Sp.rd_ok t h1
  have hr := Sp.raw_length t h1
  have hc := Sp.content_length t h1
  have ht := tag_lt t
  show (Sp.content t).length + 2 ≤ (Sp.raw t).length ∧ (Sp.raw t).length ≤ M ∧ 0 ≤ ((Sp.tag t : Nat) : Int) ∧ ((Sp.tag t : Nat) : Int) < 256
  omega
theorem raw_rest {s : Bs} : Sp.raw s ++ Sp.rest s = s := List.take_append_drop _ _
theorem listF_good (M : Nat) : ∀ (f : Nat) (s : Bs) (a : List El), s.length ≤ M → Good M a → (a.map (·.2.2)).flatten.length + s.length ≤ M → a.length + s.length ≤ M → Good M (listF f s a).1 := by
  intro f
  induction f with
  | zero => intro s a _ h _ _; exact h
  | succ f ih =>
    intro s a hs ha hr hl
    show Good M (if s = [] then (a, (0 : Int)) else if Sp.err s ≠ 0 then ([], Sp.err s) else listF f (Sp.rest s) (a ++ [elemP s])).1
    by_cases h : s = []
    · rw [if_pos h]; exact ha
    · rw [if_neg h]
      by_cases he : Sp.err s = 0
      · rw [if_neg (by simp [he])]
        have h1 := Sp.rest_lt s he
        have h2 : (Sp.raw s).length + (Sp.rest s).length = s.length := by rw [← List.length_append, raw_rest]
        have hq : ((a ++ [elemP s]).map (·.2.2)).flatten.length = (a.map (·.2.2)).flatten.length + (Sp.raw s).length := by
          rw [List.map_append, List.flatten_append, List.length_append]; congr 1; show (Sp.raw s ++ []).length = _; rw [List.append_nil]
        refine ih _ _ (by omega) ⟨by simp; omega, ?_, by omega⟩ (by omega) (by simp; omega)
        intro e he'
        rcases List.mem_append.1 he' with h' | h'
        · exact ha.all e h'
        · rw [List.mem_singleton.1 h']; exact ⟨s, he, rfl, hs⟩
      · rw [if_pos he]; exact ⟨by simp, by simp, by simp⟩
theorem listP_good (s : Bs) : Good s.length (listP s).1 := listF_good _ _ _ _ (Nat.le_refl _) ⟨by simp, by simp, by simp⟩ (by simp) (by simp)
theorem Good.mono {M K : Nat} {l : List El} (h : Good M l) (hk : M ≤ K) : Good K l := ⟨by have := h.len; omega, fun e he => (h.all e he).mono hk, by have := h.raws; omega⟩
theorem Good.tail {M : Nat} {e : El} {l : List El} (h : Good M (e :: l)) : Good M l := ⟨by have := h.len; simp at this; omega, fun e he => h.all e (List.mem_cons_of_mem _ he), by have := h.raws; rw [List.map_cons, List.flatten_cons, List.length_append] at this; omega⟩
theorem tlv_List_eq (N : Nat) (s : Bs) (hN : 4 < N) (hs : s.length ≤ 1099511627776) (hl : s.length < N) : tlv_List N s = some (listP s) := by
  unfold tlv_List listP
  refine iterG_of (F := fun x => some (listF (x.1.length + 1) x.1 x.2)) (fun x => x.1.length + x.2.length ≤ s.length) (fun x => x.1.length) ?_ N (s, []) (by simp) hl
  rintro ⟨t, a⟩ hI k hk
  dsimp only at hI hk
  dsimp only [U2]
  by_cases h : t = []
  · subst h; rfl
  · have hp := pos_of_ne h
    rw [eq_nil_beq, decide_eq_false h, Bool.not_false, cond_true]
    show (callO (tlv_Read N t) _ : Option (List El × Int)) = some (if t = [] then (a, 0) else if Sp.err t ≠ 0 then ([], Sp.err t) else listF t.length (Sp.rest t) (a ++ [elemP t]))
    rw [if_neg h, tlv_Read_eq N t hN (by omega), callO_s]
    by_cases he : Sp.err t = 0
    · have hr : readP t = (elemP t, Sp.rest t, 0) := by unfold readP; rw [if_pos he]
      have hlt := Sp.rest_lt t he
      rw [hr, if_neg (by simp [he])]
      show Vm.chk (decide ((a.length + 1) * 41 ≤ 140737488355328)) (k (Sp.rest t, a ++ [elemP t])) = _
      rw [chk_if, if_pos (by omega), hk (Sp.rest t, a ++ [elemP t]) (by simp; omega) hlt]
      exact congrArg some (listF_fuel _ _ _ _ (by show (Sp.rest t).length < (Sp.rest t).length + 1; omega) hlt)
    · have hr : readP t = ((0, [], []), [], Sp.err t) := by unfold readP; rw [if_neg he]
      rw [hr, if_pos he]
      show (bif Sp.err t != 0 then some (([] : List El), Sp.err t) else _) = _
      rw [show (Sp.err t != 0) = true by simp [he]]; rfl
theorem ref01_List_eq (N : Nat) (s : Bs) (hN : 4 < N) (hs : s.length ≤ 1099511627776) (hl : s.length < N) : ref01_List N s = some (listP s) := by
  unfold ref01_List listP
  refine iterG_of (F := fun x => some (listF (x.1.length + 1) x.1 x.2)) (fun x => x.1.length + x.2.length ≤ s.length) (fun x => x.1.length) ?_ N (s, []) (by simp) hl
  rintro ⟨t, a⟩ hI k hk
  dsimp only at hI hk
  dsimp only [U2]
  by_cases h : t = []
  · subst h; rfl
  · have hp := pos_of_ne h
    rw [bif_if, if_pos (show (t.length : Int) > 0 by omega)]
    show (callO (ref01_Read N t) _ : Option (List El × Int)) = some (if t = [] then (a, 0) else if Sp.err t ≠ 0 then ([], Sp.err t) else listF t.length (Sp.rest t) (a ++ [elemP t]))
    rw [if_neg h, ref01_Read_eq N t hN (by omega), callO_s]
    by_cases he : Sp.err t = 0
    · have hr : readP t = (elemP t, Sp.rest t, 0) := by unfold readP; rw [if_pos he]
      have hlt := Sp.rest_lt t he
      rw [hr, if_neg (by simp [he])]
      show Vm.chk (decide ((a.length + 1) * 41 ≤ 140737488355328)) (k (Sp.rest t, a ++ [elemP t])) = _
      rw [chk_if, if_pos (by omega), hk (Sp.rest t, a ++ [elemP t]) (by simp; omega) hlt]
      exact congrArg some (listF_fuel _ _ _ _ (by show (Sp.rest t).length < (Sp.rest t).length + 1; omega) hlt)
    · have hr : readP t = ((0, [], []), [], Sp.err t) := by unfold readP; rw [if_neg he]
      rw [hr, if_pos he]
      show (bif Sp.err t != 0 then some (([] : List El), Sp.err t) else _) = _
      rw [show (Sp.err t != 0) = true by simp [he]]; rfl
end Go.Proofs.YtegnjlmdppobmaaGreat.Pl

/-
  What the two decoders of a bundle compute: the same. The plain law of BundleDecode, part 2.
-/
namespace Go.Proofs.YtegnjlmdppobmaaGreat.Pl
open Go Vm

/-! ### the reader's steps -/
/-- the next element, if it has that tag, and what is left -/
def hasP (l : List El) (t : Int) : El × Bool × List El := match l with
  | [] => ((0, [], []), false, [])
  | e :: r => if e.1 = t then (e, true, r) else ((0, [], []), false, e :: r)
theorem has_pos {e : El} {r : List El} {t : Int} (h : e.1 = t) : hasP (e :: r) t = (e, true, r) := by
  show (if e.1 = t then (e, true, r) else ((0, [], []), false, e :: r)) = _
  rw [if_pos h]
theorem has_neg {e : El} {r : List El} {t : Int} (h : ¬ e.1 = t) : hasP (e :: r) t = ((0, [], []), false, e :: r) := by
  show (if e.1 = t then (e, true, r) else ((0, [], []), false, e :: r)) = _
  rw [if_neg h]
theorem Has_eq (N : Nat) (l : List El) (t : Int) : der_Reader_Has N l t = some (hasP l t) := by
  cases l with
  | nil => rfl
  | cons e r =>
    have h0 : (((e :: r).length : Int) == (0 : Int)) = false := by simp; omega
    have h1 : decide ((0 : Int) < ((e :: r).length : Int)) = true := decide_eq_true (by simp only [List.length_cons]; omega)
    have h2 : decide ((1 : Int) ≤ ((e :: r).length : Int)) = true := decide_eq_true (by simp only [List.length_cons]; omega)
    unfold der_Reader_Has
    rw [h0, h1, h2]
    show (bif (e.1 != t) then some (((0, [], []) : El), false, e :: r) else some (e, true, cutL (e :: r) 1 (e :: r).length)) = some (if e.1 = t then (e, true, r) else ((0, [], []), false, e :: r))
    have hc : cutL (e :: r) 1 (e :: r).length = r := by
      show ((e :: r).take (e :: r).length).drop 1 = r
      rw [List.take_length]; rfl
    rw [hc]
    by_cases h : e.1 = t
    · rw [if_pos h, show (e.1 != t) = false by simp [h]]; rfl
    · rw [if_neg h, show (e.1 != t) = true by simp [h]]; rfl
/-- at the field i of a list: what is left is l -/
def At (es : List El) (l : List El) (x : List El × Int) : Prop := ∃ i : Nat, x = (es, (i : Int)) ∧ i ≤ es.length ∧ es.drop i = l
theorem May_eq (N : Nat) (es l : List El) (x : List El × Int) (hx : At es l x) (hl : es.length ≤ 1099511627776) (t : Int) :
    ∃ y, ref07_Fields_May N x t = some ((hasP l t).1, (hasP l t).2.1, y) ∧ At es (hasP l t).2.2 y := by
  obtain ⟨i, rfl, hi, hd⟩ := hx
  unfold ref07_Fields_May
  by_cases h : i = es.length
  · have hl0 : l = [] := by rw [← hd, h, List.drop_length]
    subst hl0
    have h0 : decide ((i : Int) ≥ (es.length : Int)) = true := decide_eq_true (by omega)
    have h1 : decide ((0 : Int) ≤ (i : Int)) = true := decide_eq_true (by omega)
    have h2 : decide ((i : Int) < (es.length : Int)) = false := decide_eq_false (by omega)
    dsimp only
    rw [h0, h1, h2]
    exact ⟨(es, (i : Int)), rfl, i, rfl, hi, hd⟩
  · have h0 : decide ((i : Int) ≥ (es.length : Int)) = false := decide_eq_false (by omega)
    have h1 : decide ((0 : Int) ≤ (i : Int)) = true := decide_eq_true (by omega)
    have h2 : decide ((i : Int) < (es.length : Int)) = true := decide_eq_true (by omega)
    have hg : es.drop i = es.getD i (0, [], []) :: es.drop (i + 1) := by
      rw [List.drop_eq_getElem_cons (by omega)]; congr 1
      simp [List.getD_eq_getElem?_getD, show i < es.length by omega]
    dsimp only
    rw [h0, h1, h2, w64 (x := (i : Int) + 1) (by omega) (by omega), w64 (x := (i : Int) + 1 - 1) (by omega) (by omega), show (i : Int) + 1 - 1 = (i : Int) by omega, h1, h2]
    rw [← hd, hg]
    show ∃ y, (bif ((es.getD (i : Int).toNat (0, [], [])).1 != t) then some (((0, [], []) : El), false, (es, (i : Int))) else some (es.getD (i : Int).toNat (0, [], []), true, (es, (i : Int) + 1))) = some (_, _, y) ∧ _
    rw [show (i : Int).toNat = i from rfl]
    by_cases he : (es.getD i (0, [], [])).1 = t
    · rw [has_pos he, show ((es.getD i (0, [], [])).1 != t) = false by rw [he]; simp]
      exact ⟨(es, (i : Int) + 1), rfl, i + 1, rfl, by omega, rfl⟩
    · rw [has_neg he, show ((es.getD i (0, [], [])).1 != t) = true from bne_iff_ne.2 he]
      exact ⟨(es, (i : Int)), rfl, i, rfl, hi, hg⟩
theorem Done_eq (N : Nat) (l : List El) : der_Reader_Done N l = some (if l = [] then 0 else 4, l) := by
  cases l with
  | nil => rfl
  | cons e r =>
    unfold der_Reader_Done
    rw [bif_if, if_pos (by simp only [List.length_cons]; omega), if_neg (by simp)]
theorem End_eq (N : Nat) (es l : List El) (x : List El × Int) (hx : At es l x) : ref07_Fields_End N x = some (if l = [] then 0 else 4, x) := by
  obtain ⟨i, rfl, hi, rfl⟩ := hx
  unfold ref07_Fields_End
  rw [bif_if]
  by_cases h : i = es.length
  · rw [if_neg (by show ¬ ((i : Int) < (es.length : Int)); omega), if_pos (by rw [h, List.drop_length])]
  · rw [if_pos (by show ((i : Int) < (es.length : Int)); omega), if_neg (by rw [List.drop_eq_nil_iff]; omega)]
theorem has_good {M : Nat} {l : List El} (h : Good M l) (t : Int) : Good M (hasP l t).2.2 ∧ ((hasP l t).2.1 = true → goodE M (hasP l t).1) := by
  cases l with
  | nil => exact ⟨h, fun h => by cases h⟩
  | cons e r =>
    by_cases he : e.1 = t
    · rw [has_pos he]; exact ⟨h.tail, fun _ => h.all e List.mem_cons_self⟩
    · rw [has_neg he]; exact ⟨h, fun h => by cases h⟩

/-! ### a part of a bundle -/
def partP (l : List El) (t : Int) : List El × Int × List El :=
  if (hasP l t).2.1 = false then ([], 0, (hasP l t).2.2) else
  if (listP (hasP l t).1.2.1).2 ≠ 0 then ([], (listP (hasP l t).1.2.1).2, (hasP l t).2.2) else
  if (listP (hasP l t).1.2.1).1 = [] then ([], 7, (hasP l t).2.2) else ((listP (hasP l t).1.2.1).1, 0, (hasP l t).2.2)
theorem part_good {M : Nat} {l : List El} (h : Good M l) (t : Int) : Good M (partP l t).1 ∧ Good M (partP l t).2.2 := by
  have hh := has_good h t
  have h0 : Good M ([] : List El) := ⟨by simp, by simp, by simp⟩
  unfold partP
  by_cases hb : (hasP l t).2.1 = false
  · rw [if_pos hb]; exact ⟨h0, hh.1⟩
  · rw [if_neg hb]
    have hc := (hh.2 (by simpa using hb)).content
    have hg : Good M (listP (hasP l t).1.2.1).1 := (listP_good _).mono (by omega)
    split
    · exact ⟨h0, hh.1⟩
    · split
      · exact ⟨h0, hh.1⟩
      · exact ⟨hg, hh.1⟩
theorem beq_nil_len {α : Type} (l : List α) : ((l.length : Int) == (0 : Int)) = decide (l = []) := by
  cases l with
  | nil => rfl
  | cons e r => rw [decide_eq_false (by simp)]; simp; omega
theorem raws_eq (N : Nat) (es l : List El) (x : List El × Int) (hx : At es l x) (M : Nat) (hl : es.length ≤ 1099511627776) (hg : Good M l) (hN : 4 < N) (hM : M ≤ 1099511627776) (hMN : M < N) (t : Int) :
    ∃ y, ref14_raws N x t = some ((partP l t).1, (partP l t).2.1, y) ∧ At es (partP l t).2.2 y := by
  obtain ⟨y, hy, ha⟩ := May_eq N es l x hx hl t
  have hh := has_good hg t
  unfold ref14_raws partP
  rw [hy, callO_s]
  dsimp only
  by_cases hb : (hasP l t).2.1 = false
  · rw [hb, if_pos rfl]; exact ⟨y, rfl, ha⟩
  · have hb' : (hasP l t).2.1 = true := by simpa using hb
    have hc := (hh.2 hb').content
    rw [if_neg hb, hb', Bool.not_true, cond_false, ref01_List_eq N _ hN (by omega) (by omega), callO_s]
    by_cases he : (listP (hasP l t).1.2.1).2 = 0
    · rw [if_neg (by simp [he]), show ((listP (hasP l t).1.2.1).2 != 0) = false by simp [he], cond_false, beq_nil_len, bif_if]
      by_cases hn : (listP (hasP l t).1.2.1).1 = []
      · rw [if_pos hn, if_pos hn]; exact ⟨y, rfl, ha⟩
      · rw [if_neg hn, if_neg hn]; exact ⟨y, rfl, ha⟩
    · rw [if_pos he, show ((listP (hasP l t).1.2.1).2 != 0) = true by simp [he], cond_true]; exact ⟨y, rfl, ha⟩
/-- collecting over a list -/
theorem eachG_acc {E A ρ : Type} (M : Nat) (f : E → A) (er : E → Int) (ret : Int → Option ρ) (fin : List A → Option ρ) (step : E → List A → (List A → Option ρ) → Option ρ) : ∀ (l : List E) (acc : List A),
    acc.length + l.length ≤ M → (∀ e ∈ l, ∀ acc k, acc.length + 1 ≤ M → step e acc k = if er e ≠ 0 then ret (er e) else k (acc ++ [f e])) →
    eachG step fin l acc = if firstE er l ≠ 0 then ret (firstE er l) else fin (acc ++ l.map f) := by
  intro l
  induction l with
  | nil => intro acc _ _; show fin acc = fin (acc ++ []); rw [List.append_nil]
  | cons e r ih =>
    intro acc hl h
    simp only [List.length_cons] at hl
    show step e acc _ = _
    rw [h e List.mem_cons_self acc _ (by omega)]
    show _ = if (if er e ≠ 0 then er e else firstE er r) ≠ 0 then ret (if er e ≠ 0 then er e else firstE er r) else fin (acc ++ (e :: r).map f)
    by_cases he : er e = 0
    · have hn : ¬ (er e ≠ 0) := fun h => h he
      rw [if_neg hn, if_neg hn, ih (acc ++ [f e]) (by simp; omega) (fun e he => h e (List.mem_cons_of_mem _ he)), List.append_assoc]; rfl
    · rw [if_pos he, if_pos he, if_pos he]
theorem firstE_zero {E : Type} : ∀ l : List E, firstE (fun _ => (0 : Int)) l = 0 := by
  intro l
  induction l with
  | nil => rfl
  | cons e r ih => show (if (0 : Int) ≠ 0 then 0 else firstE _ r) = 0; rw [if_neg (by simp)]; exact ih
theorem decodePart_eq (N : Nat) (l : List El) (M : Nat) (hg : Good M l) (hN : 4 < N) (hM : M ≤ 1099511627776) (hMN : M < N) (t : Int) :
    bundle_decodePart N l t = some ((partP l t).1.map (·.2.2), (partP l t).2.1, (partP l t).2.2) := by
  have hh := has_good hg t
  unfold bundle_decodePart partP
  rw [Has_eq, callO_s]
  by_cases hb : (hasP l t).2.1 = false
  · rw [if_pos hb, hb]; rfl
  · have hb' : (hasP l t).2.1 = true := by simpa using hb
    have hc := (hh.2 hb').content
    rw [if_neg hb, hb', Bool.not_true, cond_false, tlv_List_eq N _ hN (by omega) (by omega), callO_s]
    have hlg := listP_good (hasP l t).1.2.1
    generalize listP (hasP l t).1.2.1 = q at hlg ⊢
    by_cases he : q.2 = 0
    · rw [if_neg (by simp [he]), show (q.2 != 0) = false by simp [he], cond_false, beq_nil_len, bif_if]
      by_cases hn : q.1 = []
      · rw [if_pos hn, if_pos hn]; rfl
      · rw [if_neg hn, if_neg hn]
        have hq := hlg.len
        refine Eq.trans (iterG_each (S := List Bs) (mk := fun i a => (i, (hasP l t).2.2, a)) q.1 (0, [], []) (fun e a k => Vm.chk (decide ((a.length + 1) * 17 ≤ 140737488355328)) (k (a ++ [e.2.2]))) (fun a => some (a, 0, (hasP l t).2.2)) ?_ ?_ N [] (by omega)) ?_
        · intro i s k hi
          dsimp only [U3]
          rw [bif_if, if_pos (by omega), show decide ((0 : Int) ≤ (i : Int)) = true from decide_eq_true (by omega), show decide ((i : Int) < (q.1.length : Int)) = true from decide_eq_true (by omega), w64 (by omega) (by omega)]; rfl
        · intro s k
          dsimp only [U3]
          rw [bif_if, if_neg (by omega)]; rfl
        · refine Eq.trans (eachG_acc (q.1.length) (·.2.2) (fun _ => 0) (fun _ => none) _ _ q.1 [] (by simp) ?_) ?_
          · intro e _ acc k ha; rw [chk_if, if_pos (by omega), if_neg (by simp)]
          · rw [firstE_zero, if_neg (by simp)]; rfl
    · rw [if_pos he, show (q.2 != 0) = true by simp [he], cond_true]; rfl

/-! ### a pair -/
def halfP (l : List El) (t : Int) : Bs × Int × List El :=
  if (hasP l t).2.1 = false then ([], 0, (hasP l t).2.2) else ((oneP (hasP l t).1.2.1).1.2.2, (oneP (hasP l t).1.2.1).2, (hasP l t).2.2)
theorem half_good {M : Nat} {l : List El} (h : Good M l) (t : Int) : Good M (halfP l t).2.2 ∧ (halfP l t).1.length ≤ M := by
  have hh := has_good h t
  unfold halfP
  by_cases hb : (hasP l t).2.1 = false
  · rw [if_pos hb]; exact ⟨hh.1, by simp⟩
  · rw [if_neg hb]
    have hc := (hh.2 (by simpa using hb)).content
    refine ⟨hh.1, ?_⟩
    show (oneP (hasP l t).1.2.1).1.2.2.length ≤ M
    unfold oneP
    split
    · show (Sp.raw _).length ≤ M
      unfold Sp.raw; rw [List.length_take]; omega
    · simp
theorem decodeHalf_eq (N : Nat) (l : List El) (M : Nat) (hg : Good M l) (hN : 4 < N) (hM : M ≤ 1099511627776) (t : Int) : bundle_decodeHalf N l t = some (halfP l t) := by
  have hh := has_good hg t
  unfold bundle_decodeHalf halfP
  rw [Has_eq, callO_s]
  by_cases hb : (hasP l t).2.1 = false
  · rw [if_pos hb, hb]; rfl
  · have hb' : (hasP l t).2.1 = true := by simpa using hb
    have hc := (hh.2 hb').content
    rw [if_neg hb, hb', Bool.not_true, cond_false, tlv_One_eq N _ hN (by omega), callO_s]
theorem half_eq (N : Nat) (es l : List El) (x : List El × Int) (hx : At es l x) (M : Nat) (hl : es.length ≤ 1099511627776) (hg : Good M l) (hN : 4 < N) (hM : M ≤ 1099511627776) (t : Int) :
    ∃ y, ref14_half N x t = some ((halfP l t).1, (halfP l t).2.1, y) ∧ At es (halfP l t).2.2 y := by
  obtain ⟨y, hy, ha⟩ := May_eq N es l x hx hl t
  have hh := has_good hg t
  unfold ref14_half halfP
  rw [hy, callO_s]
  dsimp only
  by_cases hb : (hasP l t).2.1 = false
  · rw [hb, if_pos rfl]; exact ⟨y, rfl, ha⟩
  · have hb' : (hasP l t).2.1 = true := by simpa using hb
    have hc := (hh.2 hb').content
    rw [if_neg hb, hb', Bool.not_true, cond_false, ref01_One_eq N _ hN (by omega), callO_s]
    exact ⟨y, rfl, ha⟩
def noP : Bs × Bs := ([], [])
/-- a pair, of its element -/
def pairP (e : El) : (Bs × Bs) × Int :=
  if e.1 ≠ 48 then (noP, 5) else
  if (listP e.2.1).2 ≠ 0 then (noP, (listP e.2.1).2) else
  if (halfP (listP e.2.1).1 160).2.1 ≠ 0 then (noP, (halfP (listP e.2.1).1 160).2.1) else
  if (halfP (halfP (listP e.2.1).1 160).2.2 161).2.1 ≠ 0 then (noP, (halfP (halfP (listP e.2.1).1 160).2.2 161).2.1) else
  (((halfP (listP e.2.1).1 160).1, (halfP (halfP (listP e.2.1).1 160).2.2 161).1), if (halfP (halfP (listP e.2.1).1 160).2.2 161).2.2 = [] then 0 else 4)
theorem bne0 (x : Int) : (x != (0 : Int)) = decide (x ≠ 0) := by by_cases h : x = 0 <;> simp [h]
/-- opening: an element of the tag, and the list in it -/
def openP (s : Bs) (t : Int) : (List El × Int) ⊕ (Unit × Int) :=
  if (oneP s).2 ≠ 0 then .inr ((), (oneP s).2) else if (oneP s).1.1 ≠ t then .inr ((), 5) else
  if (listP (oneP s).1.2.1).2 ≠ 0 then .inr ((), (listP (oneP s).1.2.1).2) else .inl ((listP (oneP s).1.2.1).1, 0)
theorem one_content (s : Bs) : (oneP s).1.2.1.length ≤ s.length ∧ (oneP s).1.2.2.length ≤ s.length := by
  unfold oneP
  split
  · rename_i h
    have he := (oneErr_ok h).1
    have := Sp.content_lt s he
    have hr := Sp.raw_length s he
    have := Sp.rd_ok s he
    show (Sp.content s).length ≤ _ ∧ (Sp.raw s).length ≤ _
    omega
  · simp
theorem Open_eq (N : Nat) (s : Bs) (t : Int) (hN : 4 < N) (hs : s.length ≤ 1099511627776) (hl : s.length < N) : der_Open N s t = some (openP s t) := by
  have hc := one_content s
  unfold der_Open der_One openP
  rw [tlv_One_eq N s hN hs]
  simp only [callO_s]
  generalize oneP s = o at hc ⊢
  by_cases h1 : o.2 = 0
  · rw [if_neg (by simp [h1]), bne0, decide_eq_false (by simp [h1]), cond_false]
    by_cases h2 : o.1.1 = t
    · rw [if_neg (by simp [h2]), show (o.1.1 != t) = false by rw [h2]; simp]
      unfold der_Contents
      simp only [cond_false, callO_s]
      rw [tlv_List_eq N _ hN (by omega) (by omega)]
      simp only [callO_s]
      by_cases h3 : (listP o.1.2.1).2 = 0
      · rw [if_neg (by simp [h3]), bne0 (listP o.1.2.1).2, decide_eq_false (by simp [h3])]; rfl
      · rw [if_pos h3, bne0 (listP o.1.2.1).2, decide_eq_true h3]
        rfl
    · rw [if_pos h2, show (o.1.1 != t) = true from bne_iff_ne.2 h2]; rfl
  · rw [if_pos h1, bne0, decide_eq_true h1, cond_true, callO_s, bne0, decide_eq_true h1]; rfl
/-- a pair, of its text -/
def pairB (s : Bs) : (Bs × Bs) × Int := if (oneP s).2 ≠ 0 then (noP, (oneP s).2) else pairP (oneP s).1
theorem pairB_raw {M : Nat} {e : El} (h : goodE M e) : pairB e.2.2 = pairP e := by
  obtain ⟨t, h1, rfl, _⟩ := h
  show pairB (Sp.raw t) = _
  unfold pairB
  rw [one_raw h1]; rfl
theorem decodePair_eq (N : Nat) (s : Bs) (hN : 4 < N) (hs : s.length ≤ 1099511627776) (hl : s.length < N) : bundle_decodePair N s = some (pairB s) := by
  have hc := one_content s
  unfold bundle_decodePair pairB pairP
  rw [Open_eq N s 48 hN hs hl]
  unfold openP
  generalize oneP s = o at hc ⊢
  by_cases h1 : o.2 = 0
  · have ch1 : ¬ (o.2 ≠ 0) := by simp [h1]
    rw [if_neg ch1, if_neg ch1]
    by_cases h2 : o.1.1 = 48
    · have ch2 : ¬ (o.1.1 ≠ 48) := by simp [h2]
      rw [if_neg ch2, if_neg ch2]
      have hg := listP_good o.1.2.1
      generalize listP o.1.2.1 = q at hg ⊢
      by_cases h3 : q.2 = 0
      · have ch3 : ¬ (q.2 ≠ 0) := by simp [h3]
        rw [if_neg ch3, if_neg ch3]
        rw [callE_inl]
        dsimp only
        rw [show ((0 : Int) != 0) = false from rfl, cond_false, decodeHalf_eq N q.1 _ hg hN (by omega) 160, callO_s]
        have hg2 := (half_good hg 160).1
        generalize halfP q.1 160 = a at hg2 ⊢
        by_cases h4 : a.2.1 = 0
        · rw [if_neg (by simp [h4]), bne0, decide_eq_false (by simp [h4]), cond_false, decodeHalf_eq N a.2.2 _ hg2 hN (by omega) 161, callO_s]
          generalize halfP a.2.2 161 = b
          by_cases h5 : b.2.1 = 0
          · rw [if_neg (by simp [h5]), bne0, decide_eq_false (by simp [h5]), cond_false, Done_eq, callO_s]
          · rw [if_pos h5, bne0, decide_eq_true h5]; rfl
        · rw [if_pos h4, bne0, decide_eq_true h4]; rfl
      · rw [if_pos h3, if_pos h3]
        rw [callE_inr]
        dsimp only
        rw [bne0, decide_eq_true h3]; rfl
    · rw [if_pos h2, if_pos h2]; rfl
  · rw [if_pos h1, if_pos h1]
    rw [callE_inr]
    dsimp only
    rw [bne0, decide_eq_true h1]; rfl
theorem pair_len {M : Nat} {e : El} (h : goodE M e) : (pairP e).1.1.length ≤ M ∧ (pairP e).1.2.length ≤ M := by
  have hc := h.content
  have hg : Good M (listP e.2.1).1 := (listP_good _).mono (by omega)
  have h1 := half_good hg 160
  have h2 := half_good h1.1 161
  unfold pairP
  split
  · simp [noP]
  · split
    · simp [noP]
    · split
      · simp [noP]
      · split
        · simp [noP]
        · exact ⟨h1.2, h2.2⟩
/-- one pair in the document's decoder -/
theorem refPair_eq {ρ : Type} (N : Nat) (e : El) (M : Nat) (h : goodE M e) (hN : 4 < N) (hM : M ≤ 1099511627776) (hMN : M < N) (ret : Int → Option ρ) (K : Bs × Bs → Option ρ) :
    (callO (ref07_Open N e 48) fun r94 =>
      bif (r94.2 != (0 : Int)) then ret r94.2
      else (callO (ref14_half N r94.1 160) fun r103 =>
      bif (r103.2.1 != (0 : Int)) then ret r103.2.1
      else (callO (ref14_half N r103.2.2 161) fun r112 =>
      bif (r112.2.1 != (0 : Int)) then ret r112.2.1
      else (callO (ref07_Fields_End N r112.2.2) fun r120 =>
      bif (r120.1 != (0 : Int)) then ret r120.1
      else K (r103.1, r112.1))))) = if (pairP e).2 ≠ 0 then ret (pairP e).2 else K (pairP e).1 := by
  have hc := h.content
  obtain ⟨R, hR⟩ : ∃ R : (Bs × Bs) × Int → Option ρ, R = fun p => if p.2 ≠ 0 then ret p.2 else K p.1 := ⟨_, rfl⟩
  have hr : (if (pairP e).2 ≠ 0 then ret (pairP e).2 else K (pairP e).1) = R (pairP e) := by rw [hR]
  rw [hr]
  have hbad : ∀ (p : Bs × Bs) (x : Int), x ≠ 0 → R (p, x) = ret x := fun p x hx => by rw [hR]; exact if_pos hx
  have hgood : ∀ p : Bs × Bs, R (p, 0) = K p := fun p => by rw [hR]; exact if_neg (fun h => h rfl)
  unfold ref07_Open pairP
  by_cases h2 : e.1 = 48
  · rw [show (e.1 != 48) = false by rw [h2]; rfl, cond_false, ref01_List_eq N _ hN (by omega) (by omega), callO_s, callO_s, if_neg (by simp [h2])]
    have hg : Good M (listP e.2.1).1 := (listP_good _).mono (by omega)
    generalize listP e.2.1 = q at hg ⊢
    dsimp only
    by_cases h3 : q.2 = 0
    · have hq := hg.len
      rw [bne0, decide_eq_false (by simp [h3]), cond_false, if_neg (by simp [h3])]
      obtain ⟨y, hy, hay⟩ := half_eq N q.1 q.1 (q.1, 0) ⟨0, rfl, by omega, rfl⟩ M (by omega) hg hN hM 160
      have hg2 := (half_good hg 160).1
      rw [hy, callO_s]
      dsimp only
      generalize halfP q.1 160 = a at hg2 hay ⊢
      by_cases h4 : a.2.1 = 0
      · rw [if_neg (by simp [h4]), bne0, decide_eq_false (by simp [h4]), cond_false]
        obtain ⟨z, hz, haz⟩ := half_eq N q.1 a.2.2 y hay M (by omega) hg2 hN hM 161
        rw [hz, callO_s]
        dsimp only
        generalize halfP a.2.2 161 = b at haz ⊢
        by_cases h5 : b.2.1 = 0
        · rw [if_neg (by simp [h5]), bne0, decide_eq_false (by simp [h5]), cond_false, End_eq N q.1 b.2.2 z haz, callO_s]
          dsimp only
          by_cases h6 : b.2.2 = []
          · rw [if_pos h6, hgood]; rfl
          · rw [if_neg h6, hbad _ _ (by simp)]; rfl
        · rw [if_pos h5, bne0, decide_eq_true h5, cond_true, hbad _ _ h5]
      · rw [if_pos h4, bne0, decide_eq_true h4, cond_true, hbad _ _ h4]
    · rw [bne0, decide_eq_true h3, cond_true, if_pos h3, hbad _ _ h3]
  · rw [show (e.1 != 48) = true from bne_iff_ne.2 h2, if_pos h2, hbad _ _ (by simp)]; rfl
end Go.Proofs.YtegnjlmdppobmaaGreat.Pl

/-
  The two decoders of a bundle compute the same. The plain law of BundleDecode, part 3.
-/
namespace Go.Proofs.YtegnjlmdppobmaaGreat.Pl
open Go Vm

/-- a loop that gathers -/
theorem gather_loop {X Y E A ρ : Type} {B : X → (X → Option ρ) → (Y → Option ρ) → Option ρ} {kx : Y → Option ρ} (mk : Int → List A → X) (out : List A → Y) (w : Nat) (hw : w ≤ 50) (l : List E) (d : E) (f : E → A) (er : E → Int) (ret : Int → Option ρ)
    (h : ∀ (i : Nat) (s : List A) (k : X → Option ρ), i < l.length → B (mk (i : Int) s) k kx = if er (l.getD i d) ≠ 0 then ret (er (l.getD i d)) else Vm.chk (decide ((s.length + 1) * w ≤ 140737488355328)) (k (mk ((i : Int) + 1) (s ++ [f (l.getD i d)]))))
    (hend : ∀ (s : List A) (k : X → Option ρ), B (mk (l.length : Int) s) k kx = kx (out s)) (N : Nat) (hN : l.length < N) (hM : l.length ≤ 1099511627776) :
    iterG B N (mk 0 []) kx = if firstE er l ≠ 0 then ret (firstE er l) else kx (out (l.map f)) := by
  refine Eq.trans (iterG_each (S := List A) (mk := mk) l d (fun e s k => if er e ≠ 0 then ret (er e) else Vm.chk (decide ((s.length + 1) * w ≤ 140737488355328)) (k (s ++ [f e]))) (fun s => kx (out s)) h hend N [] hN) ?_
  refine eachG_acc 1099511627776 f er ret _ _ l [] (by simpa using hM) ?_
  intro e _ acc k ha
  have : (acc.length + 1) * w ≤ 1099511627776 * 50 := Nat.mul_le_mul ha hw
  rw [decide_eq_true (show (acc.length + 1) * w ≤ 140737488355328 by omega), chk_t]
theorem firstE_map {E F : Type} (f : E → Int) (g : F → E) : ∀ l : List F, firstE f (l.map g) = firstE (fun e => f (g e)) l := by
  intro l
  induction l with
  | nil => rfl
  | cons e r ih => show (if f (g e) ≠ 0 then f (g e) else firstE f (r.map g)) = (if f (g e) ≠ 0 then f (g e) else firstE _ r); rw [ih]
theorem firstE_congr {E : Type} (f g : E → Int) : ∀ l : List E, (∀ e ∈ l, f e = g e) → firstE f l = firstE g l := by
  intro l
  induction l with
  | nil => intro _; rfl
  | cons e r ih => intro h; show (if f e ≠ 0 then f e else firstE f r) = (if g e ≠ 0 then g e else firstE g r); rw [ih (fun e he => h e (List.mem_cons_of_mem _ he)), h e List.mem_cons_self]

def noB : Bundle := ([], [], [])
def finP (z : Bundle) : Bundle × Int := if bundleE z ≠ 0 then (noB, bundleE z) else (z, 0)
def lastP (x y : List Bs) (c : List El × Int × List El) : Bundle × Int :=
  if c.2.1 ≠ 0 then (noB, c.2.1) else if firstE (fun e => (pairP e).2) c.1 ≠ 0 then (noB, firstE (fun e => (pairP e).2) c.1) else
  if c.2.2 = [] then finP (x, y, c.1.map fun e => (pairP e).1) else (noB, 4)
def midP (x : List Bs) (b : List El × Int × List El) : Bundle × Int := if b.2.1 ≠ 0 then (noB, b.2.1) else lastP x (b.1.map (·.2.2)) (partP b.2.2 162)
def topP (a : List El × Int × List El) : Bundle × Int := if a.2.1 ≠ 0 then (noB, a.2.1) else midP (a.1.map (·.2.2)) (partP a.2.2 161)
def decP (s : Bs) : Bundle × Int :=
  if (oneP s).2 ≠ 0 then (noB, (oneP s).2) else if (oneP s).1.1 ≠ 48 then (noB, 5) else
  if (listP (oneP s).1.2.1).2 ≠ 0 then (noB, (listP (oneP s).1.2.1).2) else topP (partP (listP (oneP s).1.2.1).1 160)
theorem fit_raws {M N : Nat} {l : List El} (h : Good M l) (hM : M ≤ 1099511627776) (hMN : M < N) : ∀ s ∈ l.map (·.2.2), fitS N s := by
  intro s hs
  obtain ⟨e, he, rfl⟩ := List.mem_map.1 hs
  have := (h.all e he).content
  exact ⟨by show e.2.2.length ≤ _; omega, by show e.2.2.length < _; omega⟩
theorem fit_pairs {M N : Nat} {l : List El} (h : Good M l) (hM : M ≤ 1099511627776) (hMN : M < N) : ∀ q ∈ l.map (fun e => (pairP e).1), fitS N q.1 ∧ fitS N q.2 := by
  intro s hs
  obtain ⟨e, he, rfl⟩ := List.mem_map.1 hs
  have := pair_len (h.all e he)
  exact ⟨⟨by show (pairP e).1.1.length ≤ _; omega, by show (pairP e).1.1.length < _; omega⟩, by show (pairP e).1.2.length ≤ _; omega, by show (pairP e).1.2.length < _; omega⟩
theorem Decode_eq (N : Nat) (s : Bs) (hN : 64 < N) (hs : s.length ≤ 1099511627776) (hl : s.length < N) : bundle_Decode N s = some (decP s) := by
  have hc := one_content s
  unfold bundle_Decode decP
  rw [Open_eq N s 48 (by omega) hs hl]
  unfold openP
  generalize oneP s = o at hc ⊢
  by_cases h1 : o.2 = 0
  · have c1 : ¬ (o.2 ≠ 0) := by simp [h1]
    rw [if_neg c1, if_neg c1]
    by_cases h2 : o.1.1 = 48
    · have c2 : ¬ (o.1.1 ≠ 48) := by simp [h2]
      rw [if_neg c2, if_neg c2]
      have hg : Good s.length (listP o.1.2.1).1 := (listP_good _).mono (by omega)
      generalize listP o.1.2.1 = q at hg ⊢
      by_cases h3 : q.2 = 0
      · have c3 : ¬ (q.2 ≠ 0) := by simp [h3]
        rw [if_neg c3, if_neg c3, callE_inl]
        dsimp only
        rw [show ((0 : Int) != 0) = false from rfl, cond_false, decodePart_eq N q.1 s.length hg (by omega) hs hl 160, callO_s]
        dsimp only
        have ga := part_good hg 160
        generalize partP q.1 160 = a at ga ⊢
        unfold topP
        by_cases h4 : a.2.1 = 0
        · rw [bne0, decide_eq_false (by simp [h4]), cond_false, if_neg (by simp [h4]), decodePart_eq N a.2.2 s.length ga.2 (by omega) hs hl 161, callO_s]
          dsimp only
          have gb := part_good ga.2 161
          generalize partP a.2.2 161 = b at gb ⊢
          unfold midP
          by_cases h5 : b.2.1 = 0
          · rw [bne0, decide_eq_false (by simp [h5]), cond_false, if_neg (by simp [h5]), decodePart_eq N b.2.2 s.length gb.2 (by omega) hs hl 162, callO_s]
            dsimp only
            have gc := part_good gb.2 162
            generalize partP b.2.2 162 = c at gc ⊢
            unfold lastP
            by_cases h6 : c.2.1 = 0
            · rw [bne0, decide_eq_false (by simp [h6]), cond_false, if_neg (by simp [h6])]
              have hq := gc.1.len
              refine Eq.trans (gather_loop (mk := fun i x => (i, a.1.map (·.2.2), b.1.map (·.2.2), c.2.2, x)) (out := fun x => (a.1.map (·.2.2), b.1.map (·.2.2), c.2.2, x)) 33 (by omega) (c.1.map (·.2.2)) ([] : Bs) (fun e => (pairB e).1) (fun e => (pairB e).2) (fun e => some (noB, e)) ?_ ?_ N (by simp; omega) (by simp; omega)) ?_
              · intro i x k hi
                dsimp only [U5]
                have hm := getD_mem ([] : Bs) hi
                obtain ⟨e, he, hee⟩ := List.mem_map.1 hm
                have hec := (gc.1.all e he).content
                have hle : ((c.1.map (·.2.2)).getD i ([] : Bs)).length ≤ s.length := by rw [← hee]; omega
                rw [bif_if, if_pos (by omega), show decide ((0 : Int) ≤ (i : Int)) = true from decide_eq_true (by omega), show decide ((i : Int) < ((c.1.map (·.2.2)).length : Int)) = true from decide_eq_true (by omega), chk_t, chk_t, show (i : Int).toNat = i from rfl, decodePair_eq N _ (by omega) (by omega) (by omega), callO_s, w64 (by simp at hi; omega) (by simp at hi; omega), bne0, bif_if]
                by_cases hb : (pairB ((c.1.map (·.2.2)).getD i ([] : Bs))).2 = 0
                · rw [if_neg (fun h => h hb), if_neg (fun h => h hb)]
                · rw [if_pos hb, if_pos hb]; rfl
              · intro x k
                dsimp only [U5]
                rw [bif_if, if_neg (by omega)]
              · rw [firstE_map, firstE_congr _ (fun e => (pairP e).2) c.1 (fun e he => by rw [pairB_raw (gc.1.all e he)]), List.map_map, List.map_congr_left (g := fun e => (pairP e).1) (fun e he => by show (pairB e.2.2).1 = _; rw [pairB_raw (gc.1.all e he)])]
                by_cases h7 : firstE (fun e => (pairP e).2) c.1 = 0
                · have c7 : ¬ (firstE (fun e => (pairP e).2) c.1 ≠ 0) := by simp [h7]
                  rw [if_neg c7, if_neg c7]
                  dsimp only [U4]
                  rw [Done_eq, callO_s]
                  dsimp only
                  by_cases h8 : c.2.2 = []
                  · rw [if_pos h8, if_pos h8, show ((0 : Int) != 0) = false from rfl, cond_false, Check_eq N _ hN ⟨fit_raws ga.1 hs hl, fit_raws gb.1 hs hl, fit_pairs gc.1 hs hl⟩, callO_s]
                    unfold finP
                    rw [bne0, bif_if]
                    split
                    · rfl
                    · rfl
                  · rw [if_neg h8, if_neg h8]; rfl
                · rw [if_pos h7, if_pos h7]
            · rw [bne0, decide_eq_true h6, if_pos h6]; rfl
          · rw [bne0, decide_eq_true h5, if_pos h5]; rfl
        · rw [bne0, decide_eq_true h4, if_pos h4]; rfl
      · rw [if_pos h3, if_pos h3, callE_inr]
        dsimp only
        rw [bne0, decide_eq_true h3]; rfl
    · rw [if_pos h2, if_pos h2]; rfl
  · rw [if_pos h1, if_pos h1, callE_inr]
    dsimp only
    rw [bne0, decide_eq_true h1]; rfl

theorem openR_eq (N : Nat) (s : Bs) (hN : 4 < N) (hs : s.length ≤ 1099511627776) (hl : s.length < N) : ref14_open N s = some (if (oneP s).2 ≠ 0 then (([], 0), (oneP s).2) else if (oneP s).1.1 ≠ 48 then (([], 0), 5) else (((listP (oneP s).1.2.1).1, 0), (listP (oneP s).1.2.1).2)) := by
  have hc := one_content s
  unfold ref14_open ref14_whole ref07_Open
  rw [ref01_One_eq N s hN hs]
  simp only [callO_s]
  generalize oneP s = o at hc ⊢
  by_cases h1 : o.2 = 0
  · have c1 : ¬ (o.2 ≠ 0) := fun h => h h1
    rw [bne0, decide_eq_false c1, cond_false, if_neg c1]
    by_cases h2 : o.1.1 = 48
    · have c2 : ¬ (o.1.1 ≠ 48) := fun h => h h2
      rw [show (o.1.1 != 48) = false by rw [h2]; rfl, if_neg c2]
      simp only [cond_false, callO_s]
      rw [show ((0 : Int) != 0) = false from rfl, ref01_List_eq N _ hN (by omega) (by omega), show (o.1.1 != 48) = false by rw [h2]; rfl]; rfl
    · rw [show (o.1.1 != 48) = true from bne_iff_ne.2 h2, if_pos h2]; rfl
  · rw [bne0, decide_eq_true h1, if_pos h1]
    simp only [cond_true, callO_s]
    rw [bne0, decide_eq_true h1]; rfl
theorem DecodeBundle_eq (N : Nat) (s : Bs) (hN : 64 < N) (hs : s.length ≤ 1099511627776) (hl : s.length < N) : ref14_DecodeBundle N s = some (decP s) := by
  have hc := one_content s
  have ho := openR_eq N s (by omega) hs hl
  unfold ref14_DecodeBundle decP
  generalize oneP s = o at hc ho ⊢
  by_cases h1 : o.2 = 0
  · have c1 : ¬ (o.2 ≠ 0) := fun h => h h1
    rw [if_neg c1] at ho ⊢
    by_cases h2 : o.1.1 = 48
    · have c2 : ¬ (o.1.1 ≠ 48) := fun h => h h2
      rw [if_neg c2] at ho ⊢
      have hg : Good s.length (listP o.1.2.1).1 := (listP_good _).mono (by omega)
      generalize listP o.1.2.1 = q at hg ho ⊢
      rw [ho, callO_s]
      dsimp only
      by_cases h3 : q.2 = 0
      · rw [bne0, decide_eq_false (by simp [h3]), cond_false, if_neg (by simp [h3])]
        have hql := hg.len
        obtain ⟨y, hy, hay⟩ := raws_eq N q.1 q.1 (q.1, 0) ⟨0, rfl, by omega, rfl⟩ s.length (by omega) hg (by omega) hs hl 160
        have ga := part_good hg 160
        rw [hy, callO_s]
        dsimp only
        clear hy
        generalize partP q.1 160 = a at ga hay ⊢
        unfold topP
        by_cases h4 : a.2.1 = 0
        · rw [bne0, decide_eq_false (by simp [h4]), cond_false, if_neg (by simp [h4])]
          have hla := ga.1.len
          refine Eq.trans (gather_loop (mk := fun i x => (i, y.1, y.2, x)) (out := fun x => (y.1, y.2, x)) 17 (by omega) a.1 ((0, [], []) : El) (·.2.2) (fun _ => 0) (fun _ => none) ?_ ?_ N (by omega) (by omega)) ?_
          · intro i x k hi
            dsimp only [U4]
            rw [bif_if, if_pos (by omega), show decide ((0 : Int) ≤ (i : Int)) = true from decide_eq_true (by omega), show decide ((i : Int) < (a.1.length : Int)) = true from decide_eq_true (by omega), w64 (by omega) (by omega), if_neg (by simp)]; rfl
          · intro x k
            dsimp only [U4]
            rw [bif_if, if_neg (by omega)]
          · rw [firstE_zero, if_neg (by simp)]
            dsimp only [U3]
            obtain ⟨z, hz, haz⟩ := raws_eq N q.1 a.2.2 (y.1, y.2) hay s.length (by omega) ga.2 (by omega) hs hl 161
            have gb := part_good ga.2 161
            rw [hz, callO_s]
            dsimp only
            clear hz
            generalize partP a.2.2 161 = b at gb haz ⊢
            unfold midP
            by_cases h5 : b.2.1 = 0
            · rw [bne0, decide_eq_false (by simp [h5]), cond_false, if_neg (by simp [h5])]
              have hlb := gb.1.len
              refine Eq.trans (gather_loop (mk := fun i x => (i, z.1, z.2, a.1.map (·.2.2), x)) (out := fun x => (z.1, z.2, a.1.map (·.2.2), x)) 17 (by omega) b.1 ((0, [], []) : El) (·.2.2) (fun _ => 0) (fun _ => none) ?_ ?_ N (by omega) (by omega)) ?_
              · intro i x k hi
                dsimp only [U5]
                rw [bif_if, if_pos (by omega), show decide ((0 : Int) ≤ (i : Int)) = true from decide_eq_true (by omega), show decide ((i : Int) < (b.1.length : Int)) = true from decide_eq_true (by omega), w64 (by omega) (by omega), if_neg (by simp)]; rfl
              · intro x k
                dsimp only [U5]
                rw [bif_if, if_neg (by omega)]
              · rw [firstE_zero, if_neg (by simp)]
                dsimp only [U4]
                obtain ⟨w, hw, haw⟩ := raws_eq N q.1 b.2.2 (z.1, z.2) haz s.length (by omega) gb.2 (by omega) hs hl 162
                have gc := part_good gb.2 162
                rw [hw, callO_s]
                dsimp only
                clear hw
                generalize partP b.2.2 162 = c at gc haw ⊢
                unfold lastP
                by_cases h6 : c.2.1 = 0
                · rw [bne0, decide_eq_false (by simp [h6]), cond_false, if_neg (by simp [h6])]
                  have hlc := gc.1.len
                  refine Eq.trans (gather_loop (mk := fun i x => (i, w.1, w.2, a.1.map (·.2.2), b.1.map (·.2.2), x)) (out := fun x => (w.1, w.2, a.1.map (·.2.2), b.1.map (·.2.2), x)) 33 (by omega) c.1 ((0, [], []) : El) (fun e => (pairP e).1) (fun e => (pairP e).2) (fun e => some (noB, e)) ?_ ?_ N (by omega) (by omega)) ?_
                  · intro i x k hi
                    dsimp only [U6]
                    rw [bif_if, if_pos (by omega), show decide ((0 : Int) ≤ (i : Int)) = true from decide_eq_true (by omega), show decide ((i : Int) < (c.1.length : Int)) = true from decide_eq_true (by omega), w64 (by omega) (by omega), chk_t, chk_t, show (i : Int).toNat = i from rfl]
                    exact refPair_eq N (c.1.getD i (0, [], [])) s.length (gc.1.all _ (getD_mem _ hi)) (by omega) hs hl (fun e => some (noB, e)) (fun p => Vm.chk (decide ((x.length + 1) * 33 ≤ 140737488355328)) (k ((i : Int) + 1, w.1, w.2, a.1.map (·.2.2), b.1.map (·.2.2), x ++ [p])))
                  · intro x k
                    dsimp only [U6]
                    rw [bif_if, if_neg (by omega)]
                  · by_cases h7 : firstE (fun e => (pairP e).2) c.1 = 0
                    · have c7 : ¬ (firstE (fun e => (pairP e).2) c.1 ≠ 0) := fun h => h h7
                      rw [if_neg c7, if_neg c7]
                      dsimp only [U5]
                      rw [End_eq N q.1 c.2.2 (w.1, w.2) haw, callO_s]
                      dsimp only
                      by_cases h8 : c.2.2 = []
                      · rw [if_pos h8, if_pos h8, show ((0 : Int) != 0) = false from rfl, cond_false, CheckBundle_eq N _ hN ⟨fit_raws ga.1 hs hl, fit_raws gb.1 hs hl, fit_pairs gc.1 hs hl⟩, callO_s]
                        unfold finP
                        rw [bne0, bif_if]
                        split
                        · rfl
                        · rfl
                      · rw [if_neg h8, if_neg h8]; rfl
                    · rw [if_pos h7, if_pos h7]
                · rw [bne0, decide_eq_true h6, if_pos h6]; rfl
            · rw [bne0, decide_eq_true h5, if_pos h5]; rfl
        · rw [bne0, decide_eq_true h4, if_pos h4]; rfl
      · rw [if_pos h3, bne0, decide_eq_true h3]; rfl
    · rw [if_pos h2] at ho ⊢
      rw [ho, callO_s]; rfl
  · rw [if_pos h1] at ho ⊢
    rw [ho, callO_s]
    dsimp only
    rw [bne0, decide_eq_true h1]; rfl
end Go.Proofs.YtegnjlmdppobmaaGreat.Pl

/-
  Bundles: what encoding computes. No program in sight.
-/
namespace Go.Proofs.YtegnjlmdppobmaaGreat.Pl
open Go Vm

/-! ### writing one element -/
def wrapO (t : Nat) (c : Bs) : Option Bs := if c.length ≤ 131072 then some (Sp.elem t c) else none
theorem wrapO_len {t : Nat} {c : Bs} : ((wrapO t c).getD []).length ≤ 131077 := by
  unfold wrapO
  by_cases h : c.length ≤ 131072
  · rw [if_pos h]
    have := Sp.elem_length t c
    show (Sp.elem t c).length ≤ _
    omega
  · rw [if_neg h]; simp
theorem inter_nil : ∀ (l : List Bs), ([] : Bs).intercalate l = l.flatten
  | [] => rfl
  | [a] => by simp [List.intercalate]
  | a :: b :: r => by
    have := inter_nil (b :: r)
    simp only [List.intercalate, List.intersperse, List.flatten_cons] at this ⊢
    simp [this]
theorem byteOf_w8 (n : Nat) : Vm.byteOf (IntKind.u8.wrap (n : Int)) = UInt8.ofNat n := by
  rw [w8]
  unfold Vm.byteOf
  rw [show ((n : Int) % 256).toNat = n % 256 by omega]
  apply UInt8.toNat.inj
  simp
theorem isByte_w8 (x : Int) : isByte (IntKind.u8.wrap x) = true := by
  rw [w8]; unfold isByte; simp; omega
theorem fdiv_nat (n k : Nat) : (n : Int).fdiv (k : Int) = ((n / k : Nat) : Int) := by
  rw [Int.fdiv_eq_ediv_of_nonneg _ (by omega)]; rfl
theorem head_eq {ρ : Type} (t n : Nat) (ht : t < 256) (K : List Int → Option ρ) (K' : Bs → Option ρ) (hK : ∀ l, List.all l isByte = true → l.length ≤ 5 → K l = K' (List.map Vm.byteOf l)) :
    (bif decide ((n : Int) < (128 : Int)) then K ([IntKind.u8.wrap (t : Int), IntKind.u8.wrap (n : Int)] : List Int)
      else bif decide ((n : Int) < (256 : Int)) then K ([IntKind.u8.wrap (t : Int), 129, IntKind.u8.wrap (n : Int)] : List Int)
      else bif decide ((n : Int) < (65536 : Int)) then K ([IntKind.u8.wrap (t : Int), 130, IntKind.u8.wrap ((n : Int).fdiv (256)), IntKind.u8.wrap (n : Int)] : List Int)
      else K ([IntKind.u8.wrap (t : Int), 131, IntKind.u8.wrap ((n : Int).fdiv (65536)), IntKind.u8.wrap ((n : Int).fdiv (256)), IntKind.u8.wrap (n : Int)] : List Int)) = K' (UInt8.ofNat t :: Sp.lenBytes n) := by
  have f1 := fdiv_nat n 256
  have f2 := fdiv_nat n 65536
  have g1 : ∀ k : Nat, isByte (k : Int) = decide (k < 256) := fun k => by unfold isByte; simp; omega
  rw [show ((256 : Nat) : Int) = 256 from rfl] at f1
  rw [show ((65536 : Nat) : Int) = 65536 from rfl] at f2
  rw [f1, f2]
  unfold Sp.lenBytes
  simp only [bif_if]
  by_cases h1 : n < 128
  · rw [if_pos (by omega), if_pos h1, hK _ (by simp [isByte_w8]) (by simp)]
    simp only [List.map_cons, List.map_nil, byteOf_w8]
  · rw [if_neg (by omega), if_neg h1]
    by_cases h2 : n < 256
    · rw [if_pos (by omega), if_pos h2, hK _ (by simp [isByte_w8]; decide) (by simp)]
      simp only [List.map_cons, List.map_nil, byteOf_w8]; rfl
    · rw [if_neg (by omega), if_neg h2]
      by_cases h3 : n < 65536
      · rw [if_pos (by omega), if_pos h3, hK _ (by simp [isByte_w8]; decide) (by simp)]
        simp only [List.map_cons, List.map_nil, byteOf_w8]; rfl
      · rw [if_neg (by omega), if_neg h3, hK _ (by simp [isByte_w8]; decide) (by simp)]
        simp only [List.map_cons, List.map_nil, byteOf_w8]; rfl
theorem total_le {l : List Bs} {n : Nat} : l.flatten.length ≤ n ↔ (l.map List.length).sum ≤ n := by rw [List.length_flatten]
/-- lengths are added up, as long as they stay small -/
theorem total_eq {ρ : Type} (bad : Option ρ) (fin : Nat → Option ρ) : ∀ (l : List Bs) (s : {n : Nat // n ≤ 131072}),
    eachG (fun (e : Bs) (s : {n : Nat // n ≤ 131072}) (k : {n : Nat // n ≤ 131072} → Option ρ) => if h : s.1 + e.length ≤ 131072 then k ⟨s.1 + e.length, h⟩ else bad) (fun s => fin s.1) l s = if s.1 + l.flatten.length ≤ 131072 then fin (s.1 + l.flatten.length) else bad := by
  intro l
  induction l with
  | nil => intro s; have := s.2; simp [eachG, this]
  | cons e r ih =>
    intro s
    show (if h : s.1 + e.length ≤ 131072 then _ else bad) = _
    rw [List.flatten_cons, List.length_append]
    by_cases h : s.1 + e.length ≤ 131072
    · rw [dif_pos h, ih]
      dsimp only
      rw [Nat.add_assoc]
    · rw [dif_neg h, if_neg (by omega)]
theorem sum_loop {ρ : Type} (N : Nat) (l : List Bs) (hN : l.length < N) (hl : l.length ≤ 1099511627776) (bad : Option ρ) (kx : Int → Option ρ) :
    iterG (X := Int × Int) (Y := Int) (U2 fun t6a t23a k1 x2 =>
      bif decide (t23a < (l.length : Int)) then (Vm.chk (decide ((0 : Int) ≤ t23a)) <|
      Vm.chk (decide (t23a < (l.length : Int))) <|
      let x31 : Bool := decide (((l.getD t23a.toNat ([] : Bs)).length : Int) > (IntKind.i64.wrap ((131072 : Int) - t6a)))
      bif x31 then bad
      else (k1 (IntKind.i64.wrap (t6a + ((l.getD t23a.toNat ([] : Bs)).length : Int)), IntKind.i64.wrap (t23a + (1 : Int)))))
      else (x2 t6a)) N (0, 0) kx = if l.flatten.length ≤ 131072 then kx (l.flatten.length : Int) else bad := by
  refine Eq.trans (iterG_each (S := {n : Nat // n ≤ 131072}) (fun i s => ((s.1 : Int), i)) l ([] : Bs) (fun e s k => if h : s.1 + e.length ≤ 131072 then k ⟨s.1 + e.length, h⟩ else bad) (fun s => (fun n : Nat => kx (n : Int)) s.1) ?_ ?_ N ⟨0, by omega⟩ hN) ?_
  · intro i s k hi
    have hs := s.2
    show (bif decide ((i : Int) < (l.length : Int)) then _ else _) = _
    simp only [bif_if, chk_if, Int.toNat_natCast]
    rw [if_pos (by omega), if_pos (by omega), if_pos (by omega), w64 (x := 131072 - ((s.1 : Nat) : Int)) (by omega) (by omega)]
    by_cases h : s.1 + (l.getD i []).length ≤ 131072
    · rw [if_neg (by omega), dif_pos h, w64 (by omega) (by omega), w64 (by omega) (by omega)]
      rfl
    · rw [if_pos (by omega), dif_neg h]
  · intro s k
    show (bif decide ((l.length : Int) < (l.length : Int)) then _ else _) = _
    simp only [bif_if]
    rw [if_neg (by omega)]
  · refine (total_eq bad (fun n : Nat => kx (n : Int)) l ⟨0, by omega⟩).trans ?_
    dsimp only
    rw [Nat.zero_add]
theorem tlv_Wrap_eq (N t : Nat) (l : List Bs) (ht : t < 256) (h31 : t % 32 ≠ 31) (hN : l.length < N) (hl : l.length ≤ 1099511627776) : tlv_Wrap N (t : Int) l = some ((wrapO t l.flatten).getD [], if (wrapO t l.flatten).isNone then 6 else 0) := by
  unfold tlv_Wrap
  simp only [chk_or, chk_or', chk_ort, chk_bif, chk_bif', bif_or, and31 t ht]
  rw [show (decide ((t : Int) < 0) || decide ((t : Int) > 255) || ((t % 32 : Nat) : Int) == 31) = false by simp; omega, cond_false]
  refine Eq.trans (sum_loop N l hN hl _ _) ?_
  unfold wrapO
  by_cases h : l.flatten.length ≤ 131072
  · rw [if_pos h, if_pos h, letJ_eq]
    refine Eq.trans (head_eq t l.flatten.length ht (fun l1 : List Int => Vm.chk (List.all l1 isByte) <| callO (strings_Join N l ([] : Bs)) fun r81 => Vm.chk (decide ((List.map Vm.byteOf l1).length + r81.length ≤ 140737488355328)) <| some ((List.map Vm.byteOf l1) ++ r81, (0 : Int))) (fun h => some (h ++ l.flatten, 0)) (fun l' hl' hl5 => ?_)) rfl
    rw [hl', chk_t]
    unfold strings_Join
    rw [inter_nil, decide_eq_true (show l.length ≤ 140737488355328 by omega), decide_eq_true (show l.flatten.length ≤ 140737488355328 by omega)]
    show Vm.chk (decide ((List.map Vm.byteOf l').length + l.flatten.length ≤ 140737488355328)) _ = _
    rw [chk_if, if_pos (by rw [List.length_map]; omega)]
    rfl
  · rw [if_neg h, if_neg h]; rfl
theorem ref01_Wrap_eq (N t : Nat) (l : List Bs) (ht : t < 256) (h31 : t % 32 ≠ 31) (hN : l.length < N) (hl : l.length ≤ 1099511627776) (hs : l.flatten.length ≤ 140737488355328) : ref01_Wrap N (t : Int) l = some ((wrapO t l.flatten).getD [], if (wrapO t l.flatten).isNone then 6 else 0) := by
  unfold ref01_Wrap
  simp only [chk_or, chk_or', chk_ort, chk_bif, chk_bif', bif_or]
  rw [show (decide ((t : Int) < 0) || decide ((t : Int) > 255) || (t : Int).tmod 32 == 31) = false by rw [Int.tmod_eq_emod_of_nonneg (by omega)]; simp; omega, cond_false]
  refine Eq.trans (iterG_of (fun x => ∃ i, i ≤ l.length ∧ x = ((l.take i).flatten, (i : Int))) (fun x => l.length - x.2.toNat) (fun _ => some ((wrapO t l.flatten).getD [], if (wrapO t l.flatten).isNone then 6 else 0)) ?_ N _ ⟨0, by omega, rfl⟩ (by show l.length - 0 < N; omega)) rfl
  rintro x ⟨i, hi, rfl⟩ k hk
  show (bif decide ((i : Int) < (l.length : Int)) then _ else _) = _
  by_cases h : i < l.length
  · simp only [bif_if, chk_if, Int.toNat_natCast]
    have e : (l.take i).flatten ++ l.getD i [] = (l.take (i + 1)).flatten := by
      rw [take_snoc h, List.flatten_append, show l.getD i [] = l[i] by simp [List.getD_eq_getElem?_getD, h]]
      simp
    have hle : (l.take (i + 1)).flatten.length ≤ l.flatten.length := by
      conv => rhs; rw [← List.take_append_drop (i + 1) l, List.flatten_append, List.length_append]
      omega
    have e2 : (l.take i).flatten.length + (l.getD i []).length ≤ 140737488355328 := by rw [← List.length_append, e]; omega
    rw [if_pos (by omega), if_pos (by omega), if_pos (by omega), if_pos e2, e, w64 (by omega) (by omega)]
    exact hk _ ⟨i + 1, h, rfl⟩ (by show l.length - ((i : Int) + 1).toNat < l.length - (i : Int).toNat; omega)
  · have hil : i = l.length := by omega
    subst hil
    rw [bif_if, if_neg (by omega)]
    dsimp only
    rw [List.take_length]
    unfold wrapO
    by_cases h : l.flatten.length ≤ 131072
    · rw [if_pos h, bif_if, if_neg (by omega), letJ_eq]
      have := head_eq t l.flatten.length ht (fun l' : List Int => Vm.chk (List.all l' isByte) <| Vm.chk (decide ((List.map Vm.byteOf l').length + l.flatten.length ≤ 140737488355328)) <| some ((List.map Vm.byteOf l') ++ l.flatten, (0 : Int))) (fun h => some (h ++ l.flatten, 0)) (fun l' hl' hl5 => by
        rw [hl', chk_t, chk_if, if_pos (by rw [List.length_map]; omega)])
      refine Eq.trans ?_ this
      simp only [bif_if]
      by_cases h1 : l.flatten.length < 128
      · rw [if_neg (by omega), if_neg (by omega), if_neg (by omega), if_pos (by omega)]
      · by_cases h2 : l.flatten.length < 256
        · rw [if_neg (by omega), if_neg (by omega), if_pos (by omega), if_neg (by omega), if_pos (by omega)]
        · by_cases h3 : l.flatten.length < 65536
          · rw [if_neg (by omega), if_pos (by omega), if_neg (by omega), if_neg (by omega), if_pos (by omega)]
          · rw [if_pos (by omega), if_neg (by omega), if_neg (by omega), if_neg (by omega)]
    · rw [if_neg h, bif_if, if_pos (by omega)]; rfl
theorem Fit_eq (N t : Nat) (l : List Bs) (ht : t < 256) (h31 : t % 32 ≠ 31) (hN : l.length < N) (hl : l.length ≤ 1099511627776) (hs : l.flatten.length ≤ 140737488355328) : ref07_Fit N (t : Int) l = some ((wrapO t l.flatten).getD [], if (wrapO t l.flatten).isNone then 2 else 0) := by
  unfold ref07_Fit
  rw [ref01_Wrap_eq N t l ht h31 hN hl hs, callO_s]
  cases wrapO t l.flatten <;> rfl
/-! ### the writer -/
theorem Take_eq (N : Nat) (b : Bool) (s : Bs) (e : Int) : der_Writer_Take N b s e = some (s, b || decide (e ≠ 0)) := by
  unfold der_Writer_Take
  cases b <;> simp [Vm.chk, bne, BEq.beq, decide_not]
theorem Wrap_eq (N t : Nat) (b : Bool) (l : List Bs) (ht : t < 256) (h31 : t % 32 ≠ 31) (hN : l.length < N) (hl : l.length ≤ 1099511627776) : der_Writer_Wrap N b (t : Int) l = some ((wrapO t l.flatten).getD [], b || (wrapO t l.flatten).isNone) := by
  unfold der_Writer_Wrap
  rw [tlv_Wrap_eq N t l ht h31 hN hl, callO_s, Take_eq, callO_s]
  cases wrapO t l.flatten <;> simp
theorem Seq_eq (N : Nat) (b : Bool) (l : List Bs) (hN : l.length < N) (hl : l.length ≤ 1099511627776) : der_Writer_Seq N b l = some ((wrapO 48 l.flatten).getD [], b || (wrapO 48 l.flatten).isNone) := by
  unfold der_Writer_Seq
  rw [show (48 : Int) = ((48 : Nat) : Int) from rfl, Wrap_eq N 48 b l (by omega) (by omega) hN hl, callO_s]
def someO (t : Nat) (c : Bs) : Option Bs := if c = [] then some [] else wrapO t c
theorem flatten_nil {l : List Bs} (h : ∀ s ∈ l, s = []) : l.flatten = [] := List.flatten_eq_nil_iff.2 h
theorem part_eq (N t : Nat) (b : Bool) (l : List Bs) (ht : t < 256) (h31 : t % 32 ≠ 31) (hN : l.length < N) (hl : l.length ≤ 1099511627776) : bundle_part N b (t : Int) l = some ((someO t l.flatten).getD [], b || (someO t l.flatten).isNone) := by
  unfold bundle_part
  refine Eq.trans (iterG_of (fun x => ∃ i, i ≤ l.length ∧ x = ((i : Int), b) ∧ ∀ s ∈ l.take i, s = []) (fun x => l.length - x.1.toNat) (fun _ => some ((someO t l.flatten).getD [], b || (someO t l.flatten).isNone)) ?_ N _ ⟨0, by omega, rfl, fun s hs => by cases hs⟩ (by show l.length - 0 < N; omega)) rfl
  rintro x ⟨i, hi, rfl, h0⟩ k hk
  show (bif decide ((i : Int) < (l.length : Int)) then _ else _) = _
  by_cases h : i < l.length
  · simp only [bif_if, chk_if, Int.toNat_natCast, eq_nil_beq]
    rw [if_pos (by omega), if_pos (by omega), if_pos (by omega)]
    by_cases he : l.getD i [] = []
    · rw [show (!decide (l.getD i [] = [])) = false by rw [decide_eq_true he]; rfl, cond_false, w64 (by omega) (by omega)]
      refine hk _ ⟨i + 1, h, rfl, fun s hs => ?_⟩ (by show l.length - ((i : Int) + 1).toNat < l.length - (i : Int).toNat; omega)
      rw [take_snoc h] at hs
      rcases List.mem_append.1 hs with hs | hs
      · exact h0 s hs
      · rw [List.mem_singleton.1 hs]; rw [← he]; simp [List.getD_eq_getElem?_getD, h]
    · rw [show (!decide (l.getD i [] = [])) = true by rw [decide_eq_false he]; rfl, cond_true]
      rw [Wrap_eq N t b l ht h31 hN hl, callO_s]
      have : l.flatten ≠ [] := by
        intro hf
        exact he (List.flatten_eq_nil_iff.1 hf _ (getD_mem [] h))
      unfold someO
      rw [if_neg this]
  · have hil : i = l.length := by omega
    subst hil
    rw [bif_if, if_neg (by omega)]
    rw [List.take_length] at h0
    unfold someO
    rw [if_pos (flatten_nil h0)]
    simp
theorem someOf_eq (N t : Nat) (c : Bs) (ht : t < 256) (h31 : t % 32 ≠ 31) (hN : 1 < N) (hs : c.length ≤ 140737488355328) : ref14_someOf N (t : Int) c = some ((someO t c).getD [], if (someO t c).isNone then 2 else 0) := by
  unfold ref14_someOf someO
  by_cases h : c = []
  · subst h; rfl
  · rw [show (c == ([] : Bs)) = false by rw [eq_nil_beq]; simp [h], cond_false, if_neg h, Fit_eq N t [c] ht h31 (by simpa using hN) (by simp) (by simpa using hs), callO_s]
    simp

/-! ### encoding a bundle -/
def someW (b : Bool) (t : Nat) (c : Bs) : Bs × Bool := ((someO t c).getD [], b || (someO t c).isNone)
def pairW (b : Bool) (q : Bs × Bs) : Bs × Bool :=
  ((wrapO 48 ((someW b 160 q.1).1 ++ (someW (someW b 160 q.1).2 161 q.2).1)).getD [], (someW (someW b 160 q.1).2 161 q.2).2 || (wrapO 48 ((someW b 160 q.1).1 ++ (someW (someW b 160 q.1).2 161 q.2).1)).isNone)
def pairsW : List (Bs × Bs) → Bool × List Bs → Bool × List Bs
  | [], s => s
  | q :: r, s => pairsW r ((pairW s.1 q).2, s.2 ++ [(pairW s.1 q).1])
theorem someO_len {t : Nat} {c : Bs} : ((someO t c).getD []).length ≤ 131077 := by
  unfold someO
  by_cases h : c = []
  · rw [if_pos h]; simp
  · rw [if_neg h]; exact wrapO_len
theorem pairW_len (b : Bool) (q : Bs × Bs) : (pairW b q).1.length ≤ 131077 := wrapO_len
theorem pairsW_len : ∀ (l : List (Bs × Bs)) (s : Bool × List Bs), (∀ x ∈ s.2, x.length ≤ 131077) → (pairsW l s).2.length = s.2.length + l.length ∧ ∀ x ∈ (pairsW l s).2, x.length ≤ 131077 := by
  intro l
  induction l with
  | nil => intro s h; exact ⟨rfl, h⟩
  | cons q r ih =>
    intro s h
    obtain ⟨h1, h2⟩ := ih ((pairW s.1 q).2, s.2 ++ [(pairW s.1 q).1]) (fun x hx => by
      rcases List.mem_append.1 hx with hx | hx
      · exact h x hx
      · rw [List.mem_singleton.1 hx]; exact pairW_len _ _)
    refine ⟨?_, h2⟩
    show (pairsW r _).2.length = _
    rw [h1]; simp; omega
def encW (b : Bundle) : Bs × Bool :=
  let s := pairsW b.2.2 (false, [])
  let x := someW s.1 160 b.1.flatten
  let y := someW x.2 161 b.2.1.flatten
  let z := someW y.2 162 s.2.flatten
  ((wrapO 48 (x.1 ++ (y.1 ++ z.1))).getD [], z.2 || (wrapO 48 (x.1 ++ (y.1 ++ z.1))).isNone)
def encP (b : Bundle) : Bs × Int := if bundleE b ≠ 0 then ([], bundleE b) else if (encW b).2 then ([], 2) else ((encW b).1, 0)
theorem pairsW_snoc (q : Bs × Bs) : ∀ (l : List (Bs × Bs)) (s : Bool × List Bs), pairsW (l ++ [q]) s = ((pairW (pairsW l s).1 q).2, (pairsW l s).2 ++ [(pairW (pairsW l s).1 q).1]) := by
  intro l
  induction l with
  | nil => intro s; rfl
  | cons e r ih => intro s; exact ih _
theorem small_of {b : Bundle} (h : bundleE b = 0) : b.1.length ≤ 64 ∧ b.2.1.length ≤ 64 ∧ b.2.2.length ≤ 64 := by
  unfold bundleE at h
  by_cases hm : (64 < b.1.length ∨ 64 < b.2.1.length) ∨ 64 < b.2.2.length
  · rw [if_pos hm] at h; cases h
  · omega
set_option maxRecDepth 2000 in
theorem Encode_eq (N : Nat) (b : Bundle) (hN : 64 < N) (hb : Fit N b) : bundle_Encode N b = some (encP b) := by
  obtain ⟨c, l, p⟩ := b
  unfold bundle_Encode encP
  rw [Check_eq N _ hN hb, callO_s]
  by_cases hE : bundleE (c, l, p) = 0
  · have hm := small_of hE
    rw [if_neg (by simp [hE]), hE]
    rw [show ((0 : Int) != 0) = false from rfl, cond_false]
    obtain ⟨hm1, hm2, hm3⟩ := hm
    dsimp only at hm1 hm2 hm3
    refine Eq.trans (iterG_of (fun x => ∃ i, i ≤ p.length ∧ x = ((i : Int), c, l, p, (pairsW (p.take i) (false, [])).1, (pairsW (p.take i) (false, [])).2)) (fun x => p.length - x.1.toNat) (fun _ => some (if (encW (c, l, p)).2 then ([], 2) else ((encW (c, l, p)).1, 0))) ?_ N _ ⟨0, by omega, rfl⟩ (by show p.length - 0 < N; omega)) rfl
    rintro x ⟨i, hi, rfl⟩ k hk
    have hs := pairsW_len (p.take i) (false, []) (fun x hx => by cases hx)
    have hs1 : (pairsW (p.take i) (false, [])).2.length ≤ 64 := by rw [hs.1]; show 0 + (p.take i).length ≤ 64; rw [List.length_take]; omega
    have snoc : ∀ h : i < p.length, pairsW (p.take (i + 1)) (false, []) = ((pairW (pairsW (p.take i) (false, [])).1 p[i]).2, (pairsW (p.take i) (false, [])).2 ++ [(pairW (pairsW (p.take i) (false, [])).1 p[i]).1]) := fun h => by rw [take_snoc h, pairsW_snoc]
    generalize hS : pairsW (p.take i) (false, []) = s at hs hs1 snoc
    obtain ⟨bad, acc⟩ := s
    dsimp only at hs hs1 snoc
    show (bif decide ((i : Int) < (p.length : Int)) then _ else _) = _
    by_cases h : i < p.length
    · rw [bif_if, if_pos (by omega), chk_if, if_pos (by omega), chk_if, if_pos (by show (i : Int) < (p.length : Int); omega)]
      dsimp only
      rw [Int.toNat_natCast, show p.getD i (([] : Bs), ([] : Bs)) = p[i]'h by rw [List.getD_eq_getElem?_getD, List.getElem?_eq_getElem h]; rfl]
      rw [show (160 : Int) = ((160 : Nat) : Int) from rfl, show (161 : Int) = ((161 : Nat) : Int) from rfl]
      rw [part_eq N 160 bad _ (by omega) (by omega) (by simp; omega) (by simp), callO_s]
      dsimp only
      rw [part_eq N 161 _ _ (by omega) (by omega) (by simp; omega) (by simp), callO_s]
      dsimp only
      rw [Seq_eq N _ _ (by simp; omega) (by simp), callO_s, chk_if, if_pos (by omega), w64 (by omega) (by omega)]
      refine hk _ ⟨i + 1, h, ?_⟩ (by show p.length - ((i : Int) + 1).toNat < p.length - (i : Int).toNat; omega)
      rw [snoc h]
      simp only [List.flatten_cons, List.flatten_nil, List.append_nil]
      rfl
    · have hil : i = p.length := by omega
      subst hil
      rw [bif_if, if_neg (by omega)]
      rw [List.take_length] at hS
      dsimp only [U5]
      rw [show (160 : Int) = ((160 : Nat) : Int) from rfl, show (161 : Int) = ((161 : Nat) : Int) from rfl, show (162 : Int) = ((162 : Nat) : Int) from rfl]
      rw [part_eq N 160 bad c (by omega) (by omega) (by omega) (by omega), callO_s]
      dsimp only
      rw [part_eq N 161 _ l (by omega) (by omega) (by omega) (by omega), callO_s]
      dsimp only
      rw [part_eq N 162 _ acc (by omega) (by omega) (by omega) (by omega), callO_s]
      dsimp only
      rw [Seq_eq N _ _ (by simp; omega) (by simp), callO_s]
      unfold encW
      dsimp only
      rw [hS]
      simp only [List.flatten_cons, List.flatten_nil, List.append_nil]
      show callO (some _) _ = _
      rw [callO_s, bif_ite]
      dsimp only [someW]
      exact (apply_ite some _ _ _).symm
  · rw [if_pos hE]
    simp [bif_ite, hE]
end Go.Proofs.YtegnjlmdppobmaaGreat.Pl

/-
  Bundles: what the reference's encoding computes, and that it is the same. No program in sight.
-/
namespace Go.Proofs.YtegnjlmdppobmaaGreat.Pl
open Go Vm

def pairO (q : Bs × Bs) : Option Bs := (someO 160 q.1).bind fun f => (someO 161 q.2).bind fun r => wrapO 48 (f ++ r)
def stepO (o : Option Bs) (q : Bs × Bs) : Option Bs := o.bind fun a => (pairO q).map fun e => a ++ e
def refPairs (l : List (Bs × Bs)) : Option Bs := l.foldl stepO (some [])
def endR (o : Option Bs) : Bs × Int := match o with
  | some r => (r, 0)
  | none => ([], 2)
def encR (b : Bundle) : Bs × Int := if bundleE b ≠ 0 then ([], bundleE b) else
  endR ((refPairs b.2.2).bind fun z => (someO 160 b.1.flatten).bind fun x => (someO 161 b.2.1.flatten).bind fun y => (someO 162 z).bind fun w => wrapO 48 ((x ++ y) ++ w))
theorem foldl_none : ∀ l : List (Bs × Bs), l.foldl stepO none = none
  | [] => rfl
  | _ :: r => foldl_none r
theorem pairW_some {q : Bs × Bs} {e : Bs} (h : pairO q = some e) : pairW false q = (e, false) := by
  unfold pairO at h
  unfold pairW someW
  cases h1 : someO 160 q.1 with
  | none => rw [h1] at h; cases h
  | some f =>
    rw [h1] at h
    cases h2 : someO 161 q.2 with
    | none => rw [h2] at h; cases h
    | some r =>
      rw [h2] at h
      have h' : wrapO 48 (f ++ r) = some e := h
      simp [h']
theorem pairW_none {q : Bs × Bs} (h : pairO q = none) : (pairW false q).2 = true := by
  unfold pairO at h
  unfold pairW someW
  cases h1 : someO 160 q.1 with
  | none => simp
  | some f =>
    rw [h1] at h
    cases h2 : someO 161 q.2 with
    | none => simp
    | some r =>
      rw [h2] at h
      have h' : wrapO 48 (f ++ r) = none := h
      simp [h']
theorem pairW_true (q : Bs × Bs) : (pairW true q).2 = true := by simp [pairW, someW]
theorem pairsW_true : ∀ (l : List (Bs × Bs)) (a : List Bs), (pairsW l (true, a)).1 = true := by
  intro l
  induction l with
  | nil => intro a; rfl
  | cons q r ih =>
    intro a
    show (pairsW r ((pairW true q).2, _)).1 = true
    rw [pairW_true]; exact ih _
theorem pairsW_ref : ∀ (l : List (Bs × Bs)) (a : List Bs), match l.foldl stepO (some a.flatten) with
    | some z => (pairsW l (false, a)).1 = false ∧ (pairsW l (false, a)).2.flatten = z
    | none => (pairsW l (false, a)).1 = true := by
  intro l
  induction l with
  | nil => intro a; exact ⟨rfl, rfl⟩
  | cons q r ih =>
    intro a
    show match r.foldl stepO (stepO (some a.flatten) q) with
      | some z => (pairsW r ((pairW false q).2, a ++ [(pairW false q).1])).1 = false ∧ (pairsW r ((pairW false q).2, a ++ [(pairW false q).1])).2.flatten = z
      | none => (pairsW r ((pairW false q).2, a ++ [(pairW false q).1])).1 = true
    cases hq : pairO q with
    | none =>
      have : stepO (some a.flatten) q = none := by simp [stepO, hq]
      rw [this, foldl_none, pairW_none hq]
      exact pairsW_true _ _
    | some e =>
      have : stepO (some a.flatten) q = some (a ++ [e]).flatten := by simp [stepO, hq]
      rw [this, pairW_some hq]
      exact ih _
theorem enc_same (b : Bundle) : encR b = encP b := by
  obtain ⟨c, l, p⟩ := b
  unfold encR encP
  by_cases hE : bundleE (c, l, p) = 0
  · rw [if_neg (by simp [hE]), if_neg (by simp [hE])]
    have := pairsW_ref p []
    unfold encW refPairs
    dsimp only
    rw [List.flatten_nil] at this
    cases hz : p.foldl stepO (some []) with
    | none =>
      rw [hz] at this
      dsimp only at this
      simp [this, someW, endR]
    | some z =>
      rw [hz] at this
      dsimp only at this
      obtain ⟨h1, h2⟩ := this
      simp only [h1, h2, someW, Option.bind_some]
      cases someO 160 c.flatten with
      | none => simp [endR]
      | some x =>
        cases someO 161 l.flatten with
        | none => simp [endR]
        | some y =>
          cases someO 162 z with
          | none => simp [endR]
          | some w =>
            simp only [Option.bind_some, Option.getD_some, ← List.append_assoc]
            cases wrapO 48 (x ++ y ++ w) <;> simp [endR]
  · rw [if_pos hE, if_pos hE]

/-! ### the reference's walk -/
theorem flatten_le {m : Nat} : ∀ {l : List Bs}, (∀ s ∈ l, s.length ≤ m) → l.flatten.length ≤ l.length * m := by
  intro l
  induction l with
  | nil => intro _; simp
  | cons a r ih =>
    intro h
    have h1 := h a List.mem_cons_self
    have h2 := ih (fun s hs => h s (List.mem_cons_of_mem _ hs))
    rw [List.flatten_cons, List.length_append, List.length_cons, Nat.succ_mul]
    omega
theorem flatten_take {l : List Bs} {i : Nat} (h : i < l.length) : (l.take i).flatten ++ l.getD i [] = (l.take (i + 1)).flatten := by
  rw [take_snoc h, List.flatten_append, show l.getD i [] = l[i] by simp [List.getD_eq_getElem?_getD, h]]
  simp
theorem flatten_take_le (l : List Bs) (i : Nat) : (l.take i).flatten.length ≤ l.flatten.length := by
  conv => rhs; rw [← List.take_append_drop i l, List.flatten_append, List.length_append]
  omega
theorem pairO_len {q : Bs × Bs} {e : Bs} (h : pairO q = some e) : e.length ≤ 131077 := by
  have := pairW_some h
  have h2 := pairW_len false q
  rw [this] at h2; exact h2
theorem last_round (N n t : Nat) (all x : Bs) (ht : t < 256) (h31 : t % 32 ≠ 31) (hN : 1 < N) (hx : x.length ≤ 70368744177664) (ha : all.length ≤ 1099511627776) (K : Bs → Option (Bs × Int)) :
    (callO (ref14_someOf N (t : Int) x) fun r101 => bif (r101.2 != (0 : Int)) then (some (([] : Bs), r101.2)) else (Vm.chk (decide (all.length + r101.1.length ≤ 140737488355328)) <| K (all ++ r101.1))) = match someO t x with
      | some w => K (all ++ w)
      | none => some ([], 2) := by
  rw [someOf_eq N t x ht h31 hN (by omega), callO_s]
  cases h : someO t x with
  | none => rfl
  | some w =>
    have := someO_len (t := t) (c := x)
    rw [h] at this
    have hw : w.length ≤ 131077 := this
    simp only [Option.getD_some, Option.isNone_some, Bool.false_eq_true, if_false, bne_self_eq_false, cond_false]
    rw [chk_if, if_pos (by omega)]
theorem last_loop (N : Nat) (hN : 64 < N) (x y z : Bs) (hx : x.length ≤ 70368744177664) (hy : y.length ≤ 70368744177664) (hz : z.length ≤ 70368744177664) :
    iterG (X := Bs × Int × List Bs) (Y := Bs) (U3 fun t16g t92g l34048g k7 x8 =>
      bif decide (t92g < (3 : Int)) then (Vm.chk (decide ((0 : Int) ≤ t92g)) <|
      Vm.chk (decide (t92g < (3 : Int))) <|
      Vm.chk (decide (t92g.toNat < l34048g.length)) <|
      Vm.chk (decide (t92g.toNat < l34048g.length)) <|
      callO (ref14_someOf N (IntKind.i64.wrap ((160 : Int) + t92g)) (l34048g.getD t92g.toNat ([] : Bs))) fun r101 =>
      bif (r101.2 != (0 : Int)) then (some (([] : Bs), r101.2))
      else (Vm.chk (decide (t16g.length + r101.1.length ≤ 140737488355328)) <|
      k7 (t16g ++ r101.1, IntKind.i64.wrap (t92g + (1 : Int)), l34048g)))
      else (x8 t16g)) N (([] : Bs), 0, ([x, y, z] : List Bs)) (fun t16h =>
      callO (ref07_Fit N 48 ([t16h] : List Bs)) fun r113 =>
      some (r113.1, r113.2)) = some (endR ((someO 160 x).bind fun x => (someO 161 y).bind fun y => (someO 162 z).bind fun w => wrapO 48 ((x ++ y) ++ w))) := by
  obtain ⟨n, hn⟩ : ∃ n, N = n + 4 := ⟨N - 4, by omega⟩
  have h160 : IntKind.i64.wrap ((160 : Int) + 0) = ((160 : Nat) : Int) := rfl
  have h161 : IntKind.i64.wrap ((160 : Int) + 1) = ((161 : Nat) : Int) := rfl
  have h162 : IntKind.i64.wrap ((160 : Int) + 2) = ((162 : Nat) : Int) := rfl
  have i1 : IntKind.i64.wrap ((0 : Int) + 1) = 1 := rfl
  have i2 : IntKind.i64.wrap ((1 : Int) + 1) = 2 := rfl
  have i3 : IntKind.i64.wrap ((2 : Int) + 1) = 3 := rfl
  have key : ∀ (B : Bs × Int × List Bs → (Bs × Int × List Bs → Option (Bs × Int)) → (Bs → Option (Bs × Int)) → Option (Bs × Int)) (kx : Bs → Option (Bs × Int)), iterG B N = iterG B (n + 4) := fun B _ => by rw [hn]
  rw [key _ (fun _ => none)]
  rw [iterG_s]
  dsimp only [U3]
  simp only [bif_if, chk_if, h160, i1]
  rw [if_pos (by decide), if_pos (by decide), if_pos (by decide), if_pos (by simp), if_pos (by simp)]
  simp only [← chk_if]
  refine (last_round N n 160 [] x (by omega) (by omega) (by omega) hx (by simp) (fun w => iterG _ (n + 3) (w, 1, [x, y, z]) _)).trans ?_
  cases h1 : someO 160 x with
  | none => rfl
  | some a =>
    have ha : a.length ≤ 131077 := by have := someO_len (t := 160) (c := x); rw [h1] at this; exact this
    dsimp only
    rw [iterG_s]
    dsimp only [U3]
    simp only [bif_if, chk_if, h161, i2]
    rw [if_pos (by decide), if_pos (by decide), if_pos (by decide), if_pos (by simp), if_pos (by simp)]
    simp only [← chk_if]
    refine (last_round N n 161 ([] ++ a) y (by omega) (by omega) (by omega) hy (by simp; omega) (fun w => iterG _ (n + 2) (w, 2, [x, y, z]) _)).trans ?_
    cases h2 : someO 161 y with
    | none => rfl
    | some b =>
      have hb : b.length ≤ 131077 := by have := someO_len (t := 161) (c := y); rw [h2] at this; exact this
      dsimp only
      rw [iterG_s]
      dsimp only [U3]
      simp only [bif_if, chk_if, h162, i3]
      rw [if_pos (by decide), if_pos (by decide), if_pos (by decide), if_pos (by simp), if_pos (by simp)]
      simp only [← chk_if]
      refine (last_round N n 162 ([] ++ a ++ b) z (by omega) (by omega) (by omega) hz (by simp; omega) (fun w => iterG _ (n + 1) (w, 3, [x, y, z]) _)).trans ?_
      cases h3 : someO 162 z with
      | none => rfl
      | some w =>
        have hw : w.length ≤ 131077 := by have := someO_len (t := 162) (c := z); rw [h3] at this; exact this
        dsimp only
        rw [iterG_s]
        dsimp only [U3]
        rw [if_neg (by decide)]
        rw [show (48 : Int) = ((48 : Nat) : Int) from rfl, Fit_eq N 48 [[] ++ a ++ b ++ w] (by omega) (by omega) (by simp; omega) (by simp) (by simp; omega), callO_s]
        have e3 : ([[] ++ a ++ b ++ w] : List Bs).flatten = a ++ b ++ w := by simp
        rw [e3]
        simp only [Option.bind_some]
        cases wrapO 48 (a ++ b ++ w) <;> rfl
set_option maxRecDepth 2000 in
theorem EncodeBundle_eq (N : Nat) (b : Bundle) (hN : 64 < N) (hb : Fit N b) : ref14_EncodeBundle N b = some (encR b) := by
  obtain ⟨c, l, p⟩ := b
  unfold ref14_EncodeBundle encR
  rw [CheckBundle_eq N _ hN hb, callO_s]
  by_cases hE : bundleE (c, l, p) = 0
  · obtain ⟨hm1, hm2, hm3⟩ := small_of hE
    dsimp only at hm1 hm2 hm3
    rw [if_neg (by simp [hE]), hE]
    rw [show ((0 : Int) != 0) = false from rfl, cond_false]
    have hc : c.flatten.length ≤ 70368744177664 := by
      have := flatten_le (l := c) (fun s hs => (hb.c s hs).1)
      have : c.length * 1099511627776 ≤ 64 * 1099511627776 := Nat.mul_le_mul_right _ hm1
      omega
    have hl : l.flatten.length ≤ 70368744177664 := by
      have := flatten_le (l := l) (fun s hs => (hb.l s hs).1)
      have : l.length * 1099511627776 ≤ 64 * 1099511627776 := Nat.mul_le_mul_right _ hm2
      omega
    generalize hR : some (endR _) = R
    -- the first list
    refine Eq.trans (iterG_of (fun x => ∃ i, i ≤ c.length ∧ x = ((i : Int), c, l, p, ([(c.take i).flatten, [], []] : List Bs))) (fun x => c.length - x.1.toNat) (fun _ => R) ?_ N _ ⟨0, by omega, rfl⟩ (by show c.length - 0 < N; omega)) rfl
    rintro x ⟨i, hi, rfl⟩ k hk
    dsimp only [U5]
    by_cases h : i < c.length
    · have e := flatten_take h
      have hle := flatten_take_le c (i + 1)
      have e2 : (([(c.take i).flatten, [], []] : List Bs).getD 0 []).length + (c.getD i []).length ≤ 140737488355328 := by show (c.take i).flatten.length + (c.getD i []).length ≤ _; rw [← List.length_append, e]; omega
      simp only [bif_if, chk_if, Int.toNat_natCast]
      rw [if_pos (by omega), if_pos (by omega), if_pos (by omega), if_pos (by simp), if_pos (by simp), if_pos e2, if_pos (by simp), if_pos (by simp), w64 (by omega) (by omega)]
      refine hk _ ⟨i + 1, h, ?_⟩ (by show c.length - ((i : Int) + 1).toNat < c.length - (i : Int).toNat; omega)
      rw [← e]; rfl
    · have hil : i = c.length := by omega
      subst hil
      clear hk
      rw [bif_if, if_neg (by omega), List.take_length]
      -- the second list
      refine Eq.trans (iterG_of (fun x => ∃ i, i ≤ l.length ∧ x = ((i : Int), c, l, p, ([c.flatten, (l.take i).flatten, []] : List Bs))) (fun x => l.length - x.1.toNat) (fun _ => R) ?_ N _ ⟨0, by omega, rfl⟩ (by show l.length - 0 < N; omega)) rfl
      rintro x ⟨i, hi, rfl⟩ k hk
      dsimp only [U5, U4]
      by_cases h : i < l.length
      · have e := flatten_take h
        have hle := flatten_take_le l (i + 1)
        have e2 : (([c.flatten, (l.take i).flatten, []] : List Bs).getD 1 []).length + (l.getD i []).length ≤ 140737488355328 := by show (l.take i).flatten.length + (l.getD i []).length ≤ _; rw [← List.length_append, e]; omega
        simp only [bif_if, chk_if, Int.toNat_natCast]
        rw [if_pos (by omega), if_pos (by omega), if_pos (by omega), if_pos (by simp), if_pos (by simp), if_pos e2, if_pos (by simp), if_pos (by simp), w64 (by omega) (by omega)]
        refine hk _ ⟨i + 1, h, ?_⟩ (by show l.length - ((i : Int) + 1).toNat < l.length - (i : Int).toNat; omega)
        rw [← e]; rfl
      · have hil : i = l.length := by omega
        subst hil
        clear hk
        rw [bif_if, if_neg (by omega), List.take_length]
        -- the pairs
        refine Eq.trans (iterG_of (fun x => ∃ i z, i ≤ p.length ∧ (p.take i).foldl stepO (some []) = some z ∧ z.length ≤ i * 131077 ∧ x = ((i : Int), ([c.flatten, l.flatten, z] : List Bs))) (fun x => p.length - x.1.toNat) (fun _ => R) ?_ N _ ⟨0, [], by omega, rfl, by simp, rfl⟩ (by show p.length - 0 < N; omega)) rfl
        rintro x ⟨i, z, hi, hz, hzl, rfl⟩ k hk
        dsimp only [U5, U4, U2]
        by_cases h : i < p.length
        · have hmem := getD_mem (([] : Bs), ([] : Bs)) h
          have hp := hb.p _ hmem
          have hsnoc : (p.take (i + 1)).foldl stepO (some []) = stepO (some z) (p.getD i (([] : Bs), ([] : Bs))) := by
            have hq : p.getD i (([] : Bs), ([] : Bs)) = p[i] := by rw [List.getD_eq_getElem?_getD, List.getElem?_eq_getElem h]; rfl
            rw [take_snoc h, List.foldl_append, hz, hq]
            rfl
          have hfail : pairO (p.getD i (([] : Bs), ([] : Bs))) = none → R = some ([], 2) := by
            intro hn
            have : (p.take (i + 1)).foldl stepO (some []) = none := by rw [hsnoc]; unfold stepO; rw [Option.bind_some, hn]; rfl
            have : refPairs p = none := by
              unfold refPairs
              rw [← List.take_append_drop (i + 1) p, List.foldl_append, this, foldl_none]
            rw [← hR, this]; rfl
          have hgood : ∀ e, pairO (p.getD i (([] : Bs), ([] : Bs))) = some e → k ((i : Int) + 1, ([c.flatten, l.flatten, z ++ e] : List Bs)) = R := by
            intro e he
            have hel := pairO_len he
            refine hk _ ⟨i + 1, z ++ e, h, by rw [hsnoc]; unfold stepO; rw [Option.bind_some, he]; rfl, by rw [List.length_append]; omega, rfl⟩ (by show p.length - ((i : Int) + 1).toNat < p.length - (i : Int).toNat; omega)
          simp only [bif_if, chk_if, Int.toNat_natCast]
          rw [if_pos (by omega), if_pos (by omega), if_pos (by omega)]
          generalize p.getD i (([] : Bs), ([] : Bs)) = q at hp hfail hgood
          obtain ⟨⟨hf1, hf2⟩, hr1, hr2⟩ := hp
          rw [show (160 : Int) = ((160 : Nat) : Int) from rfl, show (161 : Int) = ((161 : Nat) : Int) from rfl, show (48 : Int) = ((48 : Nat) : Int) from rfl]
          rw [someOf_eq N 160 q.1 (by omega) (by omega) (by omega) (by omega), callO_s]
          cases h1 : someO 160 q.1 with
          | none => exact (hfail (by unfold pairO; rw [h1]; rfl)).symm
          | some f =>
            have hfl : f.length ≤ 131077 := by have := someO_len (t := 160) (c := q.1); rw [h1] at this; exact this
            simp only [Option.getD_some, Option.isNone_some, Bool.false_eq_true, if_false, bne_self_eq_false, cond_false]
            rw [someOf_eq N 161 q.2 (by omega) (by omega) (by omega) (by omega), callO_s]
            cases h2 : someO 161 q.2 with
            | none => exact (hfail (by unfold pairO; rw [h1, h2]; rfl)).symm
            | some r =>
              have hrl : r.length ≤ 131077 := by have := someO_len (t := 161) (c := q.2); rw [h2] at this; exact this
              simp only [Option.getD_some, Option.isNone_some, Bool.false_eq_true, if_false, bne_self_eq_false, cond_false]
              rw [Fit_eq N 48 [f, r] (by omega) (by omega) (by simp; omega) (by simp) (by simp; omega), callO_s]
              have e3 : ([f, r] : List Bs).flatten = f ++ r := by simp
              rw [e3]
              cases h3 : wrapO 48 (f ++ r) with
              | none => exact (hfail (by unfold pairO; rw [h1, h2]; exact h3)).symm
              | some e =>
                have hpo : pairO q = some e := by unfold pairO; rw [h1, h2]; exact h3
                have hel := pairO_len hpo
                simp only [Option.getD_some, Option.isNone_some, Bool.false_eq_true, if_false, bne_self_eq_false, cond_false]
                have e2 : (([c.flatten, l.flatten, z] : List Bs).getD 2 []).length + e.length ≤ 140737488355328 := by
                  show z.length + e.length ≤ _
                  omega
                rw [if_pos (by simp), if_pos (by simp), if_pos (show _ from e2), if_pos (by simp), if_pos (by simp), w64 (by omega) (by omega)]
                exact hgood e hpo
        · have hil : i = p.length := by omega
          subst hil
          clear hk
          rw [bif_if, if_neg (by omega)]
          rw [List.take_length] at hz
          have hzl' : z.length ≤ 140737488355328 := by omega
          have hR' : R = some (endR ((someO 160 c.flatten).bind fun x => (someO 161 l.flatten).bind fun y => (someO 162 z).bind fun w => wrapO 48 ((x ++ y) ++ w))) := by
            rw [← hR]
            unfold refPairs
            dsimp only
            rw [hz]; rfl
          rw [hR']
          exact last_loop N hN _ _ _ (by omega) (by omega) (by omega)
  · rw [if_pos hE]
    simp [bif_ite, hE]
end Go.Proofs.YtegnjlmdppobmaaGreat.Pl

/-
  The items of bundles that a law makes: they are made, and they are small. No program in sight.
-/
namespace Go.Proofs.YtegnjlmdppobmaaGreat.Pl
open Go Vm

/-- how far a deck is used up -/
def deckAt (L : List Int) (d : List Int × Int) : Prop := ∃ k : Nat, d = (L, (k : Int)) ∧ k ≤ L.length
theorem next_eq (N : Nat) {L : List Int} (hL : L.length ≤ 9223372036854775807) {d : List Int × Int} (hd : deckAt L d) (n : Nat) (hn : 0 < n) (hn' : n < 2147483648) :
    ∃ (r : Nat) (d' : List Int × Int), made_Deck_Next N d (n : Int) = some ((r : Int), d') ∧ r < n ∧ deckAt L d' := by
  obtain ⟨k, rfl, hk⟩ := hd
  unfold made_Deck_Next
  dsimp only
  by_cases h : k < L.length
  · rw [bif_if, if_neg (by omega), w64 (x := (k : Int) + 1) (by omega) (by omega), w64 (x := (k : Int) + 1 - 1) (by omega) (by omega), chk_if, if_pos (by omega), chk_if, if_pos (by omega)]
    generalize L.getD _ _ = x
    have hne : ((n : Int) != 0) = true := by simp; omega
    rw [hne, chk_t, chk_t]
    have h1 := Int.tmod_lt_of_pos x (show (0 : Int) < (n : Int) by omega)
    have h2 : -(n : Int) < x.tmod (n : Int) := Int.lt_tmod_of_pos x (by omega)
    rw [w64 (x := x.tmod (n : Int) + (n : Int)) (by omega) (by omega)]
    have h3 : 0 ≤ (x.tmod (n : Int) + (n : Int)).tmod (n : Int) := Int.tmod_nonneg _ (by omega)
    have h4 := Int.tmod_lt_of_pos (x.tmod (n : Int) + (n : Int)) (show (0 : Int) < (n : Int) by omega)
    refine ⟨((x.tmod (n : Int) + (n : Int)).tmod (n : Int)).toNat, (L, (k : Int) + 1), ?_, by omega, ⟨k + 1, by rw [show ((k + 1 : Nat) : Int) = (k : Int) + 1 by omega], h⟩⟩
    rw [Int.toNat_of_nonneg h3]
  · rw [bif_if, if_pos (by omega)]
    exact ⟨0, _, rfl, hn, k, rfl, hk⟩

/-! ### items: of finitely many kinds, each made by the kernel's reckoning -/
def listItem (k : Int) : Option Bs := callO (made_New 1048576 ([k] : List Int)) fun r18 => callO (made_List 1048576 r18) fun r19 => callO (made_SealedList 1048576 r19.1) fun r20 => some r20
def certItem (k j : Int) : Option Bs := callO (made_New 1048576 ([k, j] : List Int)) fun r26 => callO (made_Cert 1048576 r26) fun r27 => callO (made_Sealed 1048576 r27.1) fun r28 => some r28
def smallO (o : Option Bs) : Bool := match o with | some s => decide (s.length ≤ 3000) | none => false
theorem list0 : smallO (listItem 0) = true := by kernel_rfl
theorem list1 : smallO (listItem 1) = true := by kernel_rfl
theorem list2 : smallO (listItem 2) = true := by kernel_rfl
theorem list3 : smallO (listItem 3) = true := by kernel_rfl
theorem cert00 : smallO (certItem 0 0) = true := by kernel_rfl
theorem cert01 : smallO (certItem 0 1) = true := by kernel_rfl
theorem cert02 : smallO (certItem 0 2) = true := by kernel_rfl
theorem cert10 : smallO (certItem 1 0) = true := by kernel_rfl
theorem cert11 : smallO (certItem 1 1) = true := by kernel_rfl
theorem cert12 : smallO (certItem 1 2) = true := by kernel_rfl
theorem cert20 : smallO (certItem 2 0) = true := by kernel_rfl
theorem cert21 : smallO (certItem 2 1) = true := by kernel_rfl
theorem cert22 : smallO (certItem 2 2) = true := by kernel_rfl
theorem cert30 : smallO (certItem 3 0) = true := by kernel_rfl
theorem cert31 : smallO (certItem 3 1) = true := by kernel_rfl
theorem cert32 : smallO (certItem 3 2) = true := by kernel_rfl
end Go.Proofs.YtegnjlmdppobmaaGreat.Pl

/-
  Bundles that a law makes: they are made, and they are small. No program in sight.
-/
namespace Go.Proofs.YtegnjlmdppobmaaGreat.Pl
open Go Vm

theorem small_some {o : Option Bs} (h : smallO o = true) : ∃ s, o = some s ∧ s.length ≤ 3000 := by
  cases o with
  | none => cases h
  | some s => exact ⟨s, rfl, of_decide_eq_true h⟩
theorem list_item (k : Nat) (hk : k < 4) : ∃ s, listItem (k : Int) = some s ∧ s.length ≤ 3000 := by
  have : k = 0 ∨ k = 1 ∨ k = 2 ∨ k = 3 := by omega
  rcases this with rfl | rfl | rfl | rfl
  · exact small_some list0
  · exact small_some list1
  · exact small_some list2
  · exact small_some list3
theorem cert_item (k j : Nat) (hk : k < 4) (hj : j < 3) : ∃ s, certItem (k : Int) (j : Int) = some s ∧ s.length ≤ 3000 := by
  have h1 : k = 0 ∨ k = 1 ∨ k = 2 ∨ k = 3 := by omega
  have h2 : j = 0 ∨ j = 1 ∨ j = 2 := by omega
  rcases h1 with rfl | rfl | rfl | rfl <;> rcases h2 with rfl | rfl | rfl
  · exact small_some cert00
  · exact small_some cert01
  · exact small_some cert02
  · exact small_some cert10
  · exact small_some cert11
  · exact small_some cert12
  · exact small_some cert20
  · exact small_some cert21
  · exact small_some cert22
  · exact small_some cert30
  · exact small_some cert31
  · exact small_some cert32
theorem callO_split {α ρ : Type} [Inhabited α] {o : Option α} {k : α → Option ρ} {r : ρ} (h : callO o k = some r) : ∃ a, o = some a ∧ k a = some r := by
  cases o with
  | none => cases h
  | some a => exact ⟨a, rfl, h⟩
theorem item_eq {L : List Int} (hL : L.length ≤ 9223372036854775807) {d : List Int × Int} (hd : deckAt L d) :
    ∃ (s : Bs) (d' : List Int × Int), law20_item 1048576 d = some (s, d') ∧ s.length ≤ 3000 ∧ deckAt L d' := by
  unfold law20_item
  obtain ⟨r, d1, h1, hr, hd1⟩ := next_eq 1048576 hL hd 5 (by omega) (by omega)
  rw [show (5 : Int) = ((5 : Nat) : Int) from rfl, h1, callO_s]
  dsimp only
  by_cases h0 : r = 0
  · subst h0
    rw [show (((0 : Nat) : Int) == 0) = true from rfl, cond_true]
    obtain ⟨r2, d2, h2, hr2, hd2⟩ := next_eq 1048576 hL hd1 3 (by omega) (by omega)
    rw [show (3 : Int) = ((3 : Nat) : Int) from rfl, h2, callO_s]
    dsimp only
    rw [show List.all ([IntKind.u8.wrap (r2 : Int)] : List Int) isByte = true by simp [isByte_w8], chk_t, chk_if, if_pos (by simp)]
    exact ⟨_, _, rfl, by simp, hd2⟩
  · rw [show (((r : Nat) : Int) == 0) = false by simp; omega, cond_false]
    by_cases h1' : r = 1
    · subst h1'
      rw [show (((1 : Nat) : Int) == 1) = true from rfl, cond_true]
      obtain ⟨r2, d2, h2, hr2, hd2⟩ := next_eq 1048576 hL hd1 4 (by omega) (by omega)
      rw [show (4 : Int) = ((4 : Nat) : Int) from rfl, h2, callO_s]
      dsimp only
      obtain ⟨s, hs, hsl⟩ := list_item r2 hr2
      unfold listItem at hs
      obtain ⟨a, ha, hs⟩ := callO_split hs
      obtain ⟨b, hb, hs⟩ := callO_split hs
      obtain ⟨c, hc, hs⟩ := callO_split hs
      injection hs with hs
      rw [ha, callO_s, hb, callO_s, hc, callO_s, hs]
      exact ⟨_, _, rfl, hsl, hd2⟩
    · rw [show (((r : Nat) : Int) == 1) = false by simp; omega, cond_false]
      obtain ⟨r2, d2, h2, hr2, hd2⟩ := next_eq 1048576 hL hd1 4 (by omega) (by omega)
      rw [show (4 : Int) = ((4 : Nat) : Int) from rfl, h2, callO_s]
      dsimp only
      obtain ⟨r3, d3, h3, hr3, hd3⟩ := next_eq 1048576 hL hd2 3 (by omega) (by omega)
      rw [show (3 : Int) = ((3 : Nat) : Int) from rfl, h3, callO_s]
      dsimp only
      obtain ⟨s, hs, hsl⟩ := cert_item r2 r3 hr2 hr3
      unfold certItem at hs
      obtain ⟨a, ha, hs⟩ := callO_split hs
      obtain ⟨b, hb, hs⟩ := callO_split hs
      obtain ⟨c, hc, hs⟩ := callO_split hs
      injection hs with hs
      rw [ha, callO_s, hb, callO_s, hc, callO_s, hs]
      exact ⟨_, _, rfl, hsl, hd3⟩

/-! ### bundles -/
def few (n : Nat) (l : List Bs) : Prop := l.length ≤ n ∧ ∀ s ∈ l, s.length ≤ 3000
def fewP (n : Nat) (l : List (Bs × Bs)) : Prop := l.length ≤ n ∧ ∀ q ∈ l, q.1.length ≤ 3000 ∧ q.2.length ≤ 3000
theorem few_snoc {n : Nat} {l : List Bs} {s : Bs} (h : few n l) (hs : s.length ≤ 3000) : few (n + 1) (l ++ [s]) :=
  ⟨by have := h.1; simp; omega, fun x hx => by
    rcases List.mem_append.1 hx with hx | hx
    · exact h.2 x hx
    · rw [List.mem_singleton.1 hx]; exact hs⟩
theorem fewP_snoc {n : Nat} {l : List (Bs × Bs)} {s : Bs × Bs} (h : fewP n l) (h1 : s.1.length ≤ 3000) (h2 : s.2.length ≤ 3000) : fewP (n + 1) (l ++ [s]) :=
  ⟨by have := h.1; simp; omega, fun x hx => by
    rcases List.mem_append.1 hx with hx | hx
    · exact h.2 x hx
    · rw [List.mem_singleton.1 hx]; exact ⟨h1, h2⟩⟩
theorem few_mono {n m : Nat} {l : List Bs} (h : few n l) (hm : n ≤ m) : few m l := ⟨Nat.le_trans h.1 hm, h.2⟩
structure Small (n : Nat) (b : Bundle) : Prop where
  c : few n b.1
  l : few n b.2.1
  p : fewP n b.2.2
theorem Small.fit {n : Nat} {b : Bundle} (h : Small n b) : Fit 1048576 b :=
  ⟨fun s hs => ⟨by have := h.c.2 s hs; omega, by have := h.c.2 s hs; omega⟩, fun s hs => ⟨by have := h.l.2 s hs; omega, by have := h.l.2 s hs; omega⟩,
    fun q hq => ⟨⟨by have := (h.p.2 q hq).1; omega, by have := (h.p.2 q hq).1; omega⟩, by have := (h.p.2 q hq).2; omega, by have := (h.p.2 q hq).2; omega⟩⟩
set_option maxRecDepth 4000 in
theorem made_eq {L : List Int} (hL : L.length ≤ 9223372036854775807) {d : List Int × Int} (hd : deckAt L d) :
    ∃ (b : Bundle) (d' : List Int × Int), law20_made 1048576 d = some (b, d') ∧ Small 3 b ∧ deckAt L d' := by
  unfold law20_made
  obtain ⟨r, d1, h1, hr, hd1⟩ := next_eq 1048576 hL hd 4 (by omega) (by omega)
  rw [show (4 : Int) = ((4 : Nat) : Int) from rfl, h1, callO_s]
  dsimp only
  let Q : Option (Bundle × (List Int × Int)) → Prop := fun o => ∃ (b : Bundle) (d' : List Int × Int), o = some (b, d') ∧ Small 3 b ∧ deckAt L d'
  show Q _
  -- the certificates
  refine iterG_post (fun x => ∃ t : Nat, x.1 = (t : Int) ∧ deckAt L (x.2.1, x.2.2.1) ∧ few (3 - t) x.2.2.2 ∧ t ≤ 3) (fun x => x.1.toNat) Q ?_ 1048576 _ ⟨r, rfl, hd1, ⟨by simp, by simp⟩, by omega⟩ (by show (r : Int).toNat < _; omega)
  rintro ⟨t, L1, k1, acc⟩ ⟨tn, ht, hdk, hacc, ht3⟩ K hK
  dsimp only at ht hdk hacc hK
  subst ht
  dsimp only [U4]
  by_cases h : 0 < tn
  · rw [bif_if, if_pos (by omega)]
    obtain ⟨s, d2, h2, hs, hd2⟩ := item_eq hL hdk
    rw [h2, callO_s, chk_if, if_pos (by have := hacc.1; omega), w64 (by omega) (by omega)]
    exact hK _ ⟨tn - 1, by show (tn : Int) - 1 = ((tn - 1 : Nat) : Int); omega, hd2, few_mono (few_snoc hacc hs) (by omega), by omega⟩ (by show ((tn : Int) - 1).toNat < (tn : Int).toNat; omega)
  · rw [bif_if, if_neg (by omega)]
    clear hK
    dsimp only [U3]
    obtain ⟨r, d1, h1, hr, hd1⟩ := next_eq 1048576 hL hdk 4 (by omega) (by omega)
    rw [h1, callO_s]
    dsimp only
    have hc : few 3 acc := few_mono hacc (by omega)
    -- the lists
    refine iterG_post (fun x => ∃ t : Nat, x.1 = (t : Int) ∧ deckAt L (x.2.1, x.2.2.1) ∧ x.2.2.2.1 = acc ∧ few (3 - t) x.2.2.2.2 ∧ t ≤ 3) (fun x => x.1.toNat) Q ?_ 1048576 _ ⟨r, rfl, hd1, rfl, ⟨by simp, by simp⟩, by omega⟩ (by show (r : Int).toNat < _; omega)
    rintro ⟨t, L2, k2, acc1, acc2⟩ ⟨tn, ht, hdk, ha1, hacc2, ht3⟩ K hK
    dsimp only at ht hdk ha1 hacc2 hK
    subst ht; subst ha1
    dsimp only [U5]
    by_cases h : 0 < tn
    · rw [bif_if, if_pos (by omega)]
      obtain ⟨s, d2, h2, hs, hd2⟩ := item_eq hL hdk
      rw [h2, callO_s, chk_if, if_pos (by have := hacc2.1; omega), w64 (by omega) (by omega)]
      exact hK _ ⟨tn - 1, by show (tn : Int) - 1 = ((tn - 1 : Nat) : Int); omega, hd2, rfl, few_mono (few_snoc hacc2 hs) (by omega), by omega⟩ (by show ((tn : Int) - 1).toNat < (tn : Int).toNat; omega)
    · rw [bif_if, if_neg (by omega)]
      clear hK
      dsimp only [U4]
      obtain ⟨r, d1, h1, hr, hd1⟩ := next_eq 1048576 hL hdk 3 (by omega) (by omega)
      rw [show (3 : Int) = ((3 : Nat) : Int) from rfl, h1, callO_s]
      dsimp only
      have hl : few 3 acc2 := few_mono hacc2 (by omega)
      -- the pairs
      refine iterG_post (fun x => ∃ t : Nat, x.1 = (t : Int) ∧ deckAt L (x.2.1, x.2.2.1) ∧ x.2.2.2.1 = acc1 ∧ x.2.2.2.2.1 = acc2 ∧ fewP (3 - t) x.2.2.2.2.2 ∧ t ≤ 3) (fun x => x.1.toNat) Q ?_ 1048576 _ ⟨r, rfl, hd1, rfl, rfl, ⟨by simp, by simp⟩, by omega⟩ (by show (r : Int).toNat < _; omega)
      rintro ⟨t, L3, k3, b1, b2, acc3⟩ ⟨tn, ht, hdk, hb1, hb2, hacc3, ht3⟩ K hK
      dsimp only at ht hdk hb1 hb2 hacc3 hK
      subst ht; subst hb1; subst hb2
      dsimp only [U6]
      by_cases h : 0 < tn
      · rw [bif_if, if_pos (by omega)]
        obtain ⟨s1, d2, h2, hs1, hd2⟩ := item_eq hL hdk
        rw [h2, callO_s]
        dsimp only
        obtain ⟨s2, d3, h3, hs2, hd3⟩ := item_eq hL hd2
        rw [h3, callO_s, letJ_eq]
        dsimp only
        obtain ⟨r4, d4, h4, hr4, hd4⟩ := next_eq 1048576 hL hd3 3 (by omega) (by omega)
        rw [h4, callO_s]
        dsimp only
        have fin : ∀ f g : Bs, f.length ≤ 3000 → g.length ≤ 3000 → Q (Vm.chk (decide ((acc3.length + 1) * 33 ≤ 140737488355328)) <| K (IntKind.i64.wrap ((tn : Int) - (1 : Int)), d4.1, d4.2, b1, b2, acc3 ++ ([(f, g)] : List (Bs × Bs)))) := by
          intro f g hf hg
          rw [chk_if, if_pos (by have := hacc3.1; omega), w64 (by omega) (by omega)]
          refine hK _ ⟨tn - 1, by show (tn : Int) - 1 = ((tn - 1 : Nat) : Int); omega, hd4, rfl, rfl, ?_, by omega⟩ (by show ((tn : Int) - 1).toNat < (tn : Int).toNat; omega)
          have := fewP_snoc hacc3 (s := (f, g)) hf hg
          exact ⟨by have := this.1; show (acc3 ++ [(f, g)]).length ≤ _; omega, this.2⟩
        by_cases h0 : r4 = 0
        · subst h0
          exact fin [] s2 (by simp) hs2
        · rw [show (((r4 : Nat) : Int) == 0) = false by simp; omega, cond_false]
          by_cases h1 : r4 = 1
          · subst h1
            exact fin s1 [] hs1 (by simp)
          · rw [show (((r4 : Nat) : Int) == 1) = false by simp; omega, cond_false]
            exact fin s1 s2 hs1 hs2
      · rw [bif_if, if_neg (by omega)]
        exact ⟨_, _, rfl, ⟨hc, hl, by have := hacc3.1; exact ⟨by show acc3.length ≤ 3; omega, hacc3.2⟩⟩, hdk⟩
end Go.Proofs.YtegnjlmdppobmaaGreat.Pl

/-
  Damaging a text: it ends, and the result is not much longer. The plain law of BundleDecode, part 4.
-/
namespace Go.Proofs.YtegnjlmdppobmaaGreat.Pl
open Go Vm

theorem cutL_len {α : Type} (l : List α) (a b : Nat) : (cutL l a b).length = min b l.length - a := by
  show ((l.take b).drop a).length = _
  rw [List.length_drop, List.length_take]
theorem all_one (x : Int) : List.all ([IntKind.u8.wrap x] : List Int) isByte = true := by simp [isByte_w8]
theorem andNot31 (a : Nat) (h : a < 256) : bitsI .andNot .i64 (a : Int) 31 = ((a / 32 * 32 : Nat) : Int) := by
  have : ∀ a : Fin 256, bitsI .andNot .i64 ((a.val : Nat) : Int) 31 = ((a.val / 32 * 32 : Nat) : Int) := by decide +kernel
  exact this ⟨a, h⟩
theorem and224 (a : Nat) (h : a < 256) : bitsI .and .i64 (a : Int) 224 = ((a / 32 * 32 : Nat) : Int) := by
  have : ∀ a : Fin 256, bitsI .and .i64 ((a.val : Nat) : Int) 224 = ((a.val / 32 * 32 : Nat) : Int) := by decide +kernel
  exact this ⟨a, h⟩
theorem nat_beq (r k : Nat) : (((r : Nat) : Int) == ((k : Nat) : Int)) = decide (r = k) := by
  by_cases h : r = k
  · simp [h]
  · simp [h]; omega
/-- what damaging gives -/
def Dam (L : List Int) (n : Nat) (o : Option (Bs × List Int × Int)) : Prop := ∃ (r : Bs) (d : List Int × Int), o = some (r, d) ∧ deckAt L d ∧ r.length ≤ n
theorem Dam.mono {L : List Int} {n m : Nat} {o : Option (Bs × List Int × Int)} (h : Dam L n o) (hm : n ≤ m) : Dam L m o := by
  obtain ⟨r, d, h1, h2, h3⟩ := h; exact ⟨r, d, h1, h2, by omega⟩
theorem Damage_eq (N : Nat) {L : List Int} (hL : L.length ≤ 9223372036854775807) {d : List Int × Int} (hd : deckAt L d) (s : Bs) (hs : s.length ≤ 1073741824) : Dam L (s.length + 1) (made_Damage N d s) := by
  unfold made_Damage
  by_cases h : s = []
  · subst h
    exact ⟨[], d, rfl, hd, by simp⟩
  · have hp := pos_of_ne h
    rw [eq_nil_beq, decide_eq_false h, cond_false]
    obtain ⟨i, d1, h1, hi, hd1⟩ := next_eq N hL hd s.length hp (by omega)
    rw [h1, callO_s]
    dsimp only
    obtain ⟨x, d2, h2, hx, hd2⟩ := next_eq N hL hd1 256 (by omega) (by omega)
    rw [show (256 : Int) = ((256 : Nat) : Int) from rfl, h2, callO_s]
    dsimp only
    rw [all_one, chk_t]
    obtain ⟨k, d3, h3, hk, hd3⟩ := next_eq N hL hd2 5 (by omega) (by omega)
    rw [show (5 : Int) = ((5 : Nat) : Int) from rfl, h3, callO_s]
    dsimp only
    rw [w64 (x := (i : Int) + 1) (by omega) (by omega), show ((i : Int) + 1).toNat = i + 1 by omega, show (i : Int).toNat = i from rfl]
    have hone : (List.map Vm.byteOf ([IntKind.u8.wrap (x : Int)] : List Int)).length = 1 := rfl
    have c1 := cutL_len s 0 i
    have c2 := cutL_len s (i + 1) s.length
    have c3 := cutL_len s i s.length
    generalize List.map Vm.byteOf ([IntKind.u8.wrap (x : Int)] : List Int) = one at hone ⊢
    rw [show decide ((0 : Int) ≤ (i : Int)) = true from decide_eq_true (by omega), show decide ((i : Int) ≤ (s.length : Int)) = true from decide_eq_true (by omega), show decide ((0 : Int) ≤ (i : Int) + 1) = true from decide_eq_true (by omega), show decide ((i : Int) + 1 ≤ (s.length : Int)) = true from decide_eq_true (by omega)]
    simp only [chk_t]
    rw [show ((k : Int) == 0) = decide (k = 0) from nat_beq k 0, show ((k : Int) == 1) = decide (k = 1) from nat_beq k 1, show ((k : Int) == 2) = decide (k = 2) from nat_beq k 2, show ((k : Int) == 3) = decide (k = 3) from nat_beq k 3]
    simp only [bif_if, chk_if]
    by_cases k0 : k = 0
    · rw [if_pos k0, if_pos (by omega), if_pos (by simp; omega)]
      exact ⟨_, d3, rfl, hd3, by simp; omega⟩
    rw [if_neg k0]
    by_cases k1 : k = 1
    · rw [if_pos k1, if_pos (by omega), if_pos (by simp; omega)]
      exact ⟨_, d3, rfl, hd3, by simp; omega⟩
    rw [if_neg k1]
    by_cases k2 : k = 2
    · rw [if_pos k2, if_pos (by omega)]
      exact ⟨_, d3, rfl, hd3, by simp; omega⟩
    rw [if_neg k2]
    by_cases k3 : k = 3
    · rw [if_pos k3]
      exact ⟨_, d3, rfl, hd3, by omega⟩
    rw [if_neg k3]
    exact ⟨_, d3, rfl, hd3, by omega⟩
theorem Wrap07_eq (N t : Nat) (c : Bs) (ht : t < 256) (h31 : t % 32 ≠ 31) (hN : 1 < N) (hs : c.length ≤ 140737488355328) : ∃ r, ref07_Wrap N (t : Int) ([c] : List Bs) = some r ∧ r.length ≤ c.length + 5 := by
  unfold ref07_Wrap
  have hf : ([c] : List Bs).flatten = c := by simp
  rw [ref01_Wrap_eq N t [c] ht h31 (by simpa using hN) (by simp) (by rw [hf]; exact hs), callO_s, hf]
  refine ⟨_, rfl, ?_⟩
  show ((wrapO t c).getD []).length ≤ _
  unfold wrapO
  split
  · exact Sp.elem_length t c
  · simp
theorem replaced_eq (N : Nat) {L : List Int} (hL : L.length ≤ 9223372036854775807) {d : List Int × Int} (hd : deckAt L d) (s : Bs) (hs : s.length ≤ 1073741824) (hN : 1 < N) : Dam L (s.length + 5) (made_replaced N d s) := by
  unfold made_replaced
  rw [bif_if]
  by_cases h : s.length < 2
  · rw [if_pos (by omega)]; exact ⟨s, d, rfl, hd, by omega⟩
  · rw [if_neg (by omega), show decide ((2 : Int) ≤ (s.length : Int)) = true from decide_eq_true (by omega), show decide ((0 : Int) < (s.length : Int)) = true from decide_eq_true (by omega)]
    simp only [chk_t]
    obtain ⟨k, d1, h1, hk, hd1⟩ := next_eq N hL hd 6 (by omega) (by omega)
    rw [show (6 : Int) = ((6 : Nat) : Int) from rfl, h1, callO_s]
    dsimp only
    rw [show ((k : Int) == 0) = decide (k = 0) from nat_beq k 0, show ((k : Int) == 1) = decide (k = 1) from nat_beq k 1, show ((k : Int) == 2) = decide (k = 2) from nat_beq k 2, show ((k : Int) == 3) = decide (k = 3) from nat_beq k 3, show ((k : Int) == 4) = decide (k = 4) from nat_beq k 4]
    simp only [bif_if]
    have c2 := cutL_len s 2 s.length
    have hb : (s.getD 0 0).toNat < 256 := UInt8.toNat_lt _
    by_cases k0 : k = 0
    · rw [if_pos k0]
      obtain ⟨j, d2, h2, hj, hd2⟩ := next_eq N hL hd1 31 (by omega) (by omega)
      rw [show (31 : Int) = ((31 : Nat) : Int) from rfl, h2, callO_s]
      dsimp only
      obtain ⟨r, hr, hrl⟩ := Wrap07_eq N j (cutL s 2 s.length) (by omega) (by omega) hN (by omega)
      rw [hr, callO_s]
      exact ⟨r, d2, rfl, hd2, by omega⟩
    rw [if_neg k0]
    by_cases k1 : k = 1
    · rw [if_pos k1, w64 (by omega) (by omega), andNot31 _ hb]
      obtain ⟨r, hr, hrl⟩ := Wrap07_eq N ((s.getD 0 0).toNat / 32 * 32) (cutL s 2 s.length) (by omega) (by omega) hN (by omega)
      rw [hr, callO_s]
      exact ⟨r, d1, rfl, hd1, by omega⟩
    rw [if_neg k1]
    by_cases k2 : k = 2
    · rw [if_pos k2, w64 (by omega) (by omega), and224 _ hb]
      obtain ⟨r, hr, hrl⟩ := Wrap07_eq N ((s.getD 0 0).toNat / 32 * 32) [] (by omega) (by omega) hN (by simp)
      rw [hr, callO_s]
      exact ⟨r, d1, rfl, hd1, by simp at hrl; omega⟩
    rw [if_neg k2]
    by_cases k3 : k = 3
    · rw [if_pos k3]
      obtain ⟨x, d2, h2, hx, hd2⟩ := next_eq N hL hd1 256 (by omega) (by omega)
      rw [show (256 : Int) = ((256 : Nat) : Int) from rfl, h2, callO_s]
      dsimp only
      rw [all_one, chk_t]
      exact ⟨_, d2, rfl, hd2, by show 3 ≤ _; omega⟩
    rw [if_neg k3]
    by_cases k4 : k = 4
    · rw [if_pos k4]
      exact ⟨_, d1, rfl, hd1, by show 2 ≤ _; omega⟩
    rw [if_neg k4]
    obtain ⟨r, d2, h2, hd2, hl⟩ := Damage_eq N hL hd1 s hs
    rw [h2, callO_s]
    exact ⟨r, d2, rfl, hd2, by omega⟩
end Go.Proofs.YtegnjlmdppobmaaGreat.Pl

/-
  Changing one element of a text: it ends, and the result is not much longer. The plain law of BundleDecode, part 5.
-/
namespace Go.Proofs.YtegnjlmdppobmaaGreat.Pl
open Go Vm

theorem tag31 {s : Bs} (h : Sp.err s = 0) : Sp.tag s % 32 ≠ 31 := by
  intro h31
  cases s with
  | nil => unfold Sp.err Sp.rd Sp.head at h; simp at h
  | cons t r =>
    have h31' : t.toNat % 32 = 31 := h31
    unfold Sp.err Sp.rd Sp.head at h
    simp [h31'] at h
theorem elem_raws {l : List El} {i : Nat} (hi : i < l.length) : ((l.take i).map (·.2.2)).flatten.length + (l.getD i (0, [], [])).2.2.length = ((l.take (i + 1)).map (·.2.2)).flatten.length := by
  rw [take_snoc hi, List.map_append, List.flatten_append, List.length_append]
  congr 1
  rw [show l.getD i (0, [], []) = l[i] by simp [List.getD_eq_getElem?_getD, hi]]
  simp
theorem raws_le (l : List El) (i : Nat) : ((l.take i).map (·.2.2)).flatten.length ≤ (l.map (·.2.2)).flatten.length := by
  rw [List.map_take]; exact flatten_take_le _ i
set_option maxRecDepth 4000 in
theorem Rewrap_eq (N : Nat) {L : List Int} (hL : L.length ≤ 9223372036854775807) (hN : 4 < N) : ∀ (n : Nat) (s : Bs), s.length < n → s.length < N → s.length ≤ 1048576 → ∀ d : List Int × Int, deckAt L d → Dam L (4 * s.length + 10) (made_Rewrap N n d s) := by
  intro n
  induction n with
  | zero => intro s h; omega
  | succ n ih =>
    intro s hn hsN hs d hd
    show Dam L _ (made_Rewrap_body N (made_Rewrap N n) d s)
    unfold made_Rewrap_body
    have hrep := (replaced_eq N hL hd s (by omega) (by omega)).mono (show s.length + 5 ≤ 4 * s.length + 10 by omega)
    have hrep' : Dam L (4 * s.length + 10) (callO (made_replaced N d s) fun r29 => some (r29.1, r29.2)) := by
      obtain ⟨r, d', h1, h2, h3⟩ := hrep
      rw [h1, callO_s]; exact ⟨r, d', rfl, h2, h3⟩
    rw [ref01_One_eq N s hN (by omega), callO_s]
    simp only [chk_or, chk_bif, chk_bif']
    by_cases h1 : Sp.oneErr s = 0
    · have he := (oneErr_ok h1).1
      have ho : oneP s = (elemP s, 0) := by unfold oneP; rw [if_pos h1]
      rw [ho]
      dsimp only
      rw [show ((0 : Int) != 0) = false from rfl, cond_false, bif_ite]
      split
      · exact hrep'
      · have hrd := Sp.rd_ok s he
        have hcl := Sp.content_length s he
        have hgl := listP_good (Sp.content s)
        have hec : (elemP s).2.1 = Sp.content s := rfl
        rw [hec, ref01_List_eq N _ hN (by omega) (by omega), callO_s]
        have hcs : (Sp.content s).length + 2 ≤ s.length := by omega
        generalize listP (Sp.content s) = q at hgl ⊢
        by_cases h3 : q.2 = 0
        · rw [bne0, decide_eq_false (show ¬ (q.2 ≠ 0) from fun h => h h3), cond_false, beq_nil_len, bif_if]
          by_cases h4 : q.1 = []
          · rw [if_pos h4]; exact hrep'
          · rw [if_neg h4]
            have hql := hgl.len
            have hraws := hgl.raws
            obtain ⟨j, d1, e1, hj, hd1⟩ := next_eq N hL hd q.1.length (pos_of_ne h4) (by omega)
            rw [e1, callO_s]
            dsimp only
            obtain ⟨m, d2, e2, hm, hd2⟩ := next_eq N hL hd1 8 (by omega) (by omega)
            rw [show (8 : Int) = ((8 : Nat) : Int) from rfl, e2, callO_s]
            dsimp only
            refine iterG_post (fun x => ∃ i : Nat, x.2.1 = (i : Int) ∧ i ≤ q.1.length ∧ deckAt L (x.2.2.1, x.2.2.2.1) ∧ x.2.2.2.2 = (elemP s) ∧ x.1.length ≤ ((q.1.take i).map (·.2.2)).flatten.length + (if j < i then 3 * (Sp.content s).length + 10 else 0)) (fun x => q.1.length - x.2.1.toNat) (Dam L (4 * s.length + 10)) ?_ N _ ⟨0, rfl, by omega, hd2, rfl, by simp⟩ (by show q.1.length - 0 < N; omega)
            rintro ⟨acc, t, L1, k1, ee⟩ ⟨i, ht, hi, hdk, hee, hacc⟩ K hK
            dsimp only at ht hdk hee hacc hK
            subst ht
            subst hee
            have htake := raws_le q.1 i
            dsimp only [U7, elemP]
            rw [bif_if]
            by_cases hlt : i < q.1.length
            · rw [if_pos (by omega), show decide ((0 : Int) ≤ (i : Int)) = true from decide_eq_true (by omega), show decide ((i : Int) < (q.1.length : Int)) = true from decide_eq_true (by omega), chk_t, chk_t, w64 (by omega) (by omega), show (i : Int).toNat = i from rfl]
              have hgood := hgl.all _ (getD_mem ((0, [], []) : El) hlt)
              have hcon := hgood.content
              have hstep := elem_raws hlt
              have hnext := raws_le q.1 (i + 1)
              generalize q.1.getD i (0, [], []) = e at hgood hcon hstep ⊢
              -- a step that adds the text u, at the chosen element
              have add : i = j → ∀ (u : Bs) (L2 : List Int) (k2 : Int), deckAt L (L2, k2) → u.length ≤ 4 * e.2.2.length + 10 →
                  Dam L (4 * s.length + 10) (Vm.chk (decide (acc.length + u.length ≤ 140737488355328)) (K (acc ++ u, (i : Int) + 1, L2, k2, (Sp.tag s : Int), Sp.content s, Sp.raw s))) := by
                intro hij u L2 k2 hdu hu
                rw [if_neg (by omega)] at hacc
                rw [chk_if, if_pos (by omega)]
                refine hK _ ⟨i + 1, by show (i : Int) + 1 = ((i + 1 : Nat) : Int); omega, by omega, hdu, rfl, ?_⟩ (by show q.1.length - ((i : Int) + 1).toNat < q.1.length - (i : Int).toNat; omega)
                show (acc ++ u).length ≤ _
                rw [if_pos (by omega), List.length_append]
                omega
              by_cases hij : i = j
              · rw [show ((i : Int) != (j : Int)) = false by rw [hij]; simp, cond_false]
                rw [show ((m : Int) == 0) = decide (m = 0) from nat_beq m 0, show ((m : Int) == 1) = decide (m = 1) from nat_beq m 1, show ((m : Int) == 2) = decide (m = 2) from nat_beq m 2, bif_if, bif_if, bif_if]
                by_cases m0 : m = 0
                · rw [if_pos m0, chk_if, if_pos (by omega)]
                  exact add hij _ _ _ hdk (by rw [List.length_append]; omega)
                rw [if_neg m0]
                by_cases m1 : m = 1
                · rw [if_pos m1]
                  have := add hij [] _ _ hdk (by simp)
                  rw [chk_if, if_pos (by rw [if_neg (by omega)] at hacc; simp; omega), List.append_nil] at this
                  exact this
                rw [if_neg m1]
                by_cases m2 : m = 2
                · rw [if_pos m2]
                  obtain ⟨r, d3, g1, g2, g3⟩ := replaced_eq N hL hdk e.2.2 (by omega) (by omega)
                  rw [g1, callO_s]
                  exact add hij r d3.1 d3.2 g2 (by omega)
                rw [if_neg m2]
                obtain ⟨r, d3, g1, g2, g3⟩ := ih e.2.2 (by omega) (by omega) (by omega) _ hdk
                rw [g1, callO_s]
                exact add hij r d3.1 d3.2 g2 g3
              · rw [show ((i : Int) != (j : Int)) = true by simp; omega, cond_true, chk_if, if_pos (by split at hacc <;> omega)]
                refine hK _ ⟨i + 1, by show (i : Int) + 1 = ((i + 1 : Nat) : Int); omega, by omega, hdk, rfl, ?_⟩ (by show q.1.length - ((i : Int) + 1).toNat < q.1.length - (i : Int).toNat; omega)
                show (acc ++ e.2.2).length ≤ _
                rw [List.length_append]
                by_cases hji : j < i
                · rw [if_pos hji] at hacc; rw [if_pos (by omega)]; omega
                · rw [if_neg hji] at hacc; rw [if_neg (by omega)]; omega
            · rw [if_neg (by omega)]
              dsimp only [U6]
              obtain ⟨r, g1, g2⟩ := Wrap07_eq N (Sp.tag s) acc (tag_lt s) (tag31 he) (by omega) (by split at hacc <;> omega)
              rw [g1, callO_s]
              exact ⟨r, _, rfl, hdk, by split at hacc <;> omega⟩
        · rw [bne0, decide_eq_true h3]; exact hrep'
    · have ho : oneP s = ((0, [], []), Sp.oneErr s) := by unfold oneP; rw [if_neg h1]
      rw [ho]
      dsimp only
      rw [bne0, decide_eq_true h1]; exact hrep'
end Go.Proofs.YtegnjlmdppobmaaGreat.Pl

/-
  The plain law of BundleDecode.
-/
namespace Go.Proofs.YtegnjlmdppobmaaGreat.Pl
open Go Vm

theorem awakeD_eq : law20_awake 1048576 = some true := by kernel_rfl
theorem SameStrings_eq (N : Nat) (l : List Bs) (hN : l.length < N) (hl : l.length ≤ 1099511627776) : ref14_SameStrings N l l = some true := by
  unfold ref14_SameStrings
  rw [show ((l.length : Int) != (l.length : Int)) = false by simp, cond_false]
  refine iterG_post (fun x => ∃ i : Nat, x = (i : Int) ∧ i ≤ l.length) (fun x => l.length - x.toNat) (fun o => o = some true) ?_ N _ ⟨0, rfl, by omega⟩ (by show l.length - 0 < N; omega)
  rintro x ⟨i, rfl, hi⟩ k hk
  rw [bif_if]
  by_cases h : i < l.length
  · rw [if_pos (by omega), show decide ((0 : Int) ≤ (i : Int)) = true from decide_eq_true (by omega), show decide ((i : Int) < (l.length : Int)) = true from decide_eq_true (by omega), chk_t, chk_t, chk_t, chk_t, show ((l.getD (i : Int).toNat ([] : Bs)) == (l.getD (i : Int).toNat ([] : Bs))) = true by simp, Bool.not_true, cond_false, w64 (by omega) (by omega)]
    exact hk _ ⟨i + 1, by omega, by omega⟩ (by show l.length - ((i : Int) + 1).toNat < l.length - (i : Int).toNat; omega)
  · rw [if_neg (by omega)]
theorem SameBundle_eq (N : Nat) (z : Bundle) (hN : z.1.length < N ∧ z.2.1.length < N ∧ z.2.2.length < N) (hl : z.1.length ≤ 1099511627776 ∧ z.2.1.length ≤ 1099511627776 ∧ z.2.2.length ≤ 1099511627776) : ref14_SameBundle N z z = some true := by
  unfold ref14_SameBundle
  rw [show ((z.2.2.length : Int) != (z.2.2.length : Int)) = false by simp, cond_false]
  refine iterG_post (fun x => ∃ i : Nat, x = ((i : Int), z.1, z.2.1, z.2.2, z.1, z.2.1, z.2.2) ∧ i ≤ z.2.2.length) (fun x => z.2.2.length - x.1.toNat) (fun o => o = some true) ?_ N _ ⟨0, rfl, by omega⟩ (by show z.2.2.length - 0 < N; omega)
  rintro x ⟨i, rfl, hi⟩ k hk
  dsimp only [U7]
  rw [bif_if]
  by_cases h : i < z.2.2.length
  · rw [if_pos (by omega), show decide ((0 : Int) ≤ (i : Int)) = true from decide_eq_true (by omega), show decide ((i : Int) < (z.2.2.length : Int)) = true from decide_eq_true (by omega), chk_t, chk_t, chk_t, chk_t]
    generalize z.2.2.getD (i : Int).toNat (([] : Bs), ([] : Bs)) = e
    rw [show (!((e.1 == e.1) && ((e.2 == e.2) && true))) = false by simp, cond_false, w64 (by omega) (by omega)]
    exact hk _ ⟨i + 1, by rw [show ((i + 1 : Nat) : Int) = (i : Int) + 1 by omega], by omega⟩ (by show z.2.2.length - ((i : Int) + 1).toNat < z.2.2.length - (i : Int).toNat; omega)
  · rw [if_neg (by omega)]
    dsimp only [U6]
    rw [SameStrings_eq N z.1 hN.1 hl.1, callO_s, SameStrings_eq N z.2.1 hN.2.1 hl.2.1]
    rfl
theorem finP_len {n : Nat} {z : Bundle} (h : z.1.length ≤ n ∧ z.2.1.length ≤ n ∧ z.2.2.length ≤ n) : (finP z).1.1.length ≤ n ∧ (finP z).1.2.1.length ≤ n ∧ (finP z).1.2.2.length ≤ n := by
  unfold finP
  split
  · simp [noB]
  · exact h
theorem decP_len (s : Bs) : (decP s).1.1.length ≤ s.length ∧ (decP s).1.2.1.length ≤ s.length ∧ (decP s).1.2.2.length ≤ s.length := by
  have hc := one_content s
  have hg : Good s.length (listP (oneP s).1.2.1).1 := (listP_good _).mono (by omega)
  have ga := part_good hg 160
  have gb := part_good ga.2 161
  have gc := part_good gb.2 162
  have la := ga.1.len
  have lb := gb.1.len
  have lc := gc.1.len
  unfold decP topP midP lastP
  split
  · simp [noB]
  split
  · simp [noB]
  split
  · simp [noB]
  split
  · simp [noB]
  split
  · simp [noB]
  split
  · simp [noB]
  split
  · simp [noB]
  split
  · exact finP_len ⟨by rw [List.length_map]; exact la, by show (List.map _ _).length ≤ _; rw [List.length_map]; exact lb, by show (List.map _ _).length ≤ _; rw [List.length_map]; exact lc⟩
  · simp [noB]
theorem encR_len (b : Bundle) : (encR b).1.length ≤ 131077 := by
  rw [enc_same]
  unfold encP
  split
  · simp
  · split
    · simp
    · exact wrapO_len
/-- a text that is compared -/
def shortS (s : Bs) : Prop := s.length ≤ 600000
theorem decode_law (N : Nat) (hN : N = 1048576) (s : Bs) (L : List Int) (hL : L.length ≤ 9223372036854775807) : law20_BundleDecode N s L = some true := by
  unfold law20_BundleDecode
  rw [bif_if]
  by_cases h : 300 < s.length
  · rw [if_pos (by omega), hN, awakeD_eq]; rfl
  · rw [if_neg (by omega), show made_New N L = some (L, 0) from rfl, callO_s]
    obtain ⟨b, d1, hb, hsb, hd1⟩ := made_eq hL (d := (L, 0)) ⟨0, rfl, by omega⟩
    have hfb : Fit N b := by rw [hN]; exact hsb.fit
    rw [show law20_made N (L, 0) = some (b, d1) by rw [hN]; exact hb, callO_s]
    dsimp only
    rw [EncodeBundle_eq N b (by omega) hfb, callO_s]
    have he := encR_len b
    generalize (encR b) = e at he ⊢
    obtain ⟨x1, d2, h2, hd2, l2⟩ := Damage_eq N hL hd1 e.1 (by omega)
    rw [h2, callO_s]
    dsimp only
    obtain ⟨x2, d3, h3, hd3, l3⟩ := Rewrap_eq N hL (by omega) N e.1 (by omega) (by omega) (by omega) d2 hd2
    rw [h3, callO_s]
    dsimp only
    obtain ⟨x3, d4, h4, hd4, l4⟩ := Rewrap_eq N hL (by omega) N e.1 (by omega) (by omega) (by omega) d3 hd3
    rw [h4, callO_s]
    dsimp only
    have hall : ∀ t ∈ ([s, e.1, x1, x2, x3] : List Bs), shortS t := by
      intro t ht
      simp only [List.mem_cons, List.not_mem_nil, or_false] at ht
      unfold shortS
      rcases ht with rfl | rfl | rfl | rfl | rfl <;> omega
    have hlen : ([s, e.1, x1, x2, x3] : List Bs).length = 5 := rfl
    generalize ([s, e.1, x1, x2, x3] : List Bs) = l at hall hlen ⊢
    refine iterG_post (fun x => ∃ i : Nat, x = ((i : Int), l) ∧ i ≤ 5) (fun x => 5 - x.1.toNat) (fun o => o = some true) ?_ N _ ⟨0, rfl, by omega⟩ (by show 5 - 0 < N; omega)
    rintro x ⟨i, rfl, hi⟩ k hk
    dsimp only [U2]
    rw [bif_if]
    by_cases hi5 : i < 5
    · rw [if_pos (by omega), show (i : Int).toNat = i from rfl, show decide ((0 : Int) ≤ (i : Int)) = true from decide_eq_true (by omega), show decide ((i : Int) < (l.length : Int)) = true from decide_eq_true (by omega), show decide (i < l.length) = true from decide_eq_true (by omega), chk_t, chk_t, chk_t]
      have ht := hall _ (getD_mem ([] : Bs) (show i < l.length by omega))
      generalize l.getD i ([] : Bs) = t at ht ⊢
      unfold shortS at ht
      have hz := decP_len t
      rw [Decode_eq N t (by omega) (by omega) (by omega), callO_s, DecodeBundle_eq N t (by omega) (by omega) (by omega), callO_s]
      generalize decP t = z at hz ⊢
      rw [SameBundle_eq N z.1 (by omega) (by omega), show (z.2 != z.2) = false by simp, w64 (by omega) (by omega)]
      exact hk _ ⟨i + 1, by rw [show ((i + 1 : Nat) : Int) = (i : Int) + 1 by omega], by omega⟩ (by show 5 - ((i : Int) + 1).toNat < 5 - (i : Int).toNat; omega)
    · rw [if_neg (by omega), hN, awakeD_eq]; rfl
theorem decode_law2 (s : Bs) (L : List Int) (hL : L.length ≤ 9223372036854775807) : law20_BundleDecode 1048576 s L = some true := decode_law 1048576 rfl s L hL
end Go.Proofs.YtegnjlmdppobmaaGreat.Pl

/-
  A law's function that is known to the small machine: it answers true, and what was there is as it was.
-/
namespace Go.Proofs.YtegnjlmdppobmaaGreat.Vm
open Go.RowKit

theorem Moves.below {T : Nat → Prop} {w w' : World} (h : Moves (fun _ _ => none) T w w') : Below w.heap.size w w' :=
  ⟨h.os, h.tape, h.output, h.size, fun b hb => by
    rcases h.blk b hb with e | ⟨c, c', e, fr, _, _, _, _, k, o, _, ho, _⟩
    · exact e
    · cases ho⟩
theorem Sig.of_F {pars ress : List Sh} {f : ShT pars → Option (ShT (outS pars ress))} {xs : List A} {a : ShT pars} {o : ShT (outS pars ress)} (hd : decs pars xs = some a) (hf : f a = some o) : (Sig.of pars ress f).F xs = some (encs (outS pars ress) o) := by
  unfold Sig.F Sig.of
  dsimp only
  rw [hd]
  dsimp only
  rw [hf]
  rfl
theorem law_calls {P : Program} {f : FuncId} {sg : Sig} (h : Spec P f sg) {xs : List A} {vs : Array Value} {W : World} (hF : sg.F xs = some [.bool true]) (hress : sg.ress = [.cell false .bool]) (hv : vs.size = xs.length) (hl : xs.length = sg.pars.length) (h100 : xs.length ≤ 100)
    (hx : ∀ j, j < xs.length → IR (fun _ _ => none) W (256 * j) (vs.getD j undef) (xs.getD j .undef)) : Calls P f vs W fun e w' => e = .returned (.bool true) ∧ Below W.heap.size W w' := by
  refine (h.2 (fun _ _ => none) W vs xs _ hv hl h100 hx hF).mono fun e w' hq => ?_
  obtain ⟨v, O', he, hc⟩ := hq
  obtain ⟨us, h1, h2, h3⟩ := hc.res
  rw [hress] at h1
  have h1' : us.size = 1 := h1
  have h4 : VRel O' w' (us.getD 0 undef) (.bool true) := h3 0 (by omega)
  have h5 : us.getD 0 undef = .bool true := by
    generalize us.getD 0 undef = z at h4
    cases h4; rfl
  have h6 : v = .bool true := by
    rw [h2, dif_pos h1', ← h5]
    simp [Array.getD_eq_getD_getElem?, h1']
  exact ⟨by rw [he, h6], hc.moves.below⟩
end Go.Proofs.YtegnjlmdppobmaaGreat.Vm
