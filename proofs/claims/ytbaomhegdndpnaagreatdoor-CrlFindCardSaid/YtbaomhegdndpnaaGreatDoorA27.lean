import Derived.Test.YtbaomhegdndpnaaGreatDoorA26
set_option linter.all false
namespace Go.Proofs.YtbaomhegdndpnaaGreatDoor.crlFind
open Go.ChangeShapes Go.WideShapes Go.ChangeAt Go.RowKit
open Go.Proofs.YtbaomhegdndpnaaGreatDoor.Vm
theorem named:Tryz.pinned.checked.prog.funcNamed Rows.crlFindRow.func=some 4:=by kernel_rfl
theorem inst:Tryz.f4.isInstance Tryz.pinned.checked.prog Rows.crlFindRow.origin Rows.crlFindRow.targs:=of_decide_eq_true (by kernel_rfl)
theorem wrap:Tryz.f4.isWrapper Tryz.pinned.checked.prog Rows.crlFindRow.wrapper Rows.crlFindRow.mainSum:=by
  unfold Func.isWrapper;first | (rw [if_pos (by decide +kernel)];kernel_rfl) | (rw [if_neg (by decide +kernel)];exact⟨rfl,rfl⟩)
theorem Ag3 {H:Type} (enc:TypeId×Value->H):Rows.crlFindRow.pre enc Tryz.pinned.checked.prog Tryz.f4 (OpenSpec.ofChange Rows.crlFindSpec)=(fun w args=>(Rows.crlFindSpec.pre enc Tryz.prog Tryz.f4 Rows.crlFindRow.domain false w args/\laidMetH Tryz.prog tabs w)/\sizedMet enc Tryz.prog Tryz.f4 (OpenSpec.ofChange Rows.crlFindSpec) false w args):=rfl
theorem over:Rows.crlFindRow.holds Tryz.pinned (OpenSpec.ofChange Rows.crlFindSpec) :=
  OpenClaim.holds_of_wide 4 Tryz.f4 rfl rfl rfl rfl rfl rfl rfl ⟨rfl,rfl,rfl,rfl,rfl⟩ rfl rfl rfl rfl rfl named Tryz.func4 closed inst wrap
    (fun os started H enc _=>by rw[Ag3];exact lifted os started H enc)
theorem Agj:Rows.crlFindRow.wfByText (OpenSpec.ofChange Rows.crlFindSpec)=true:=by kernel_rfl
theorem Agw:Tryz.pinned.checked.prog.mainIs=some (true,"d1ebac2110c1731dcc4862d9841fff2d2a7b6a67d052fa6a6114d135e7102232".toList):=by kernel_rfl
theorem goes:false=Rows.crlFindRow.goesBy Tryz.pinned.checked.prog:=by kernel_rfl
theorem looks:false=Tryz.pinned.checked.prog.looks []:=by kernel_rfl
theorem proved:Rows.CrlFindCardSaid :=
  Claim7.holds_tied_plain_at .later [] [.data,.data,.data,.data,.data,.pinned] true (true,"d1ebac2110c1731dcc4862d9841fff2d2a7b6a67d052fa6a6114d135e7102232") false
    over (by simp) Agj (by simp) crlFind_row_tie rfl ⟨rfl,rfl⟩ Agw rfl
    (fun f fn hf hfn=>by
      obtain rfl:f=4:=Option.some.inj ((show Tryz.prog.funcNamed "certpath/certpathlaw18.CrlFind" =some 4 by kernel_rfl).symm.trans hf) |>.symm
      obtain rfl:fn=Tryz.f4:=(Option.some.inj (Tryz.func4.symm.trans hfn)).symm
      exact⟨looks,fun j t ht=>by
        rw[Tryz.params4]at ht
        have ht:=Array.mem_of_getElem? ht
        simp only[List.mem_toArray,List.mem_cons,List.mem_nil_iff,or_false]at ht
        rcases ht with rfl | rfl | rfl | rfl | rfl | rfl
        all_goals exact of_decide_eq_true (by kernel_rfl)⟩)
    goes
