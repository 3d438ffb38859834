import Derived.Test.YtadefjgbcapakaaGreatDoorA26
set_option linter.all false
namespace Go.Proofs.YtadefjgbcapakaaGreatDoor.certextPoints
open Go.ChangeShapes Go.WideShapes Go.ChangeAt Go.RowKit
open Go.Proofs.YtadefjgbcapakaaGreatDoor.Vm
theorem named:Tryz.pinned.checked.prog.funcNamed Rows.certextPointsRow.func=some 4:=by kernel_rfl
theorem inst:Tryz.f4.isInstance Tryz.pinned.checked.prog Rows.certextPointsRow.origin Rows.certextPointsRow.targs:=of_decide_eq_true (by kernel_rfl)
theorem wrap:Tryz.f4.isWrapper Tryz.pinned.checked.prog Rows.certextPointsRow.wrapper Rows.certextPointsRow.mainSum:=by
  unfold Func.isWrapper;first | (rw [if_pos (by decide +kernel)];kernel_rfl) | (rw [if_neg (by decide +kernel)];exact⟨rfl,rfl⟩)
theorem Ane {H:Type} (enc:TypeId×Value->H):Rows.certextPointsRow.pre enc Tryz.pinned.checked.prog Tryz.f4 (OpenSpec.ofChange Rows.certextPointsSpec)=(fun w args=>(Rows.certextPointsSpec.pre enc Tryz.prog Tryz.f4 Rows.certextPointsRow.domain false w args/\laidMetH Tryz.prog tabs w)/\sizedMet enc Tryz.prog Tryz.f4 (OpenSpec.ofChange Rows.certextPointsSpec) false w args):=rfl
theorem over:Rows.certextPointsRow.holds Tryz.pinned (OpenSpec.ofChange Rows.certextPointsSpec) :=
  OpenClaim.holds_of_wide 4 Tryz.f4 rfl rfl rfl rfl rfl rfl rfl ⟨rfl,rfl,rfl,rfl,rfl⟩ rfl rfl rfl rfl rfl named Tryz.func4 closed inst wrap
    (fun os started H enc _=>by rw[Ane];exact lifted os started H enc)
theorem AmF:Rows.certextPointsRow.wfByText (OpenSpec.ofChange Rows.certextPointsSpec)=true:=by kernel_rfl
theorem AmU:Tryz.pinned.checked.prog.mainIs=some (true,"fd56ea283c74a3ea5ccf6d3da9cebecdbdc6e4d1a5c5e4d43c6e613eb14b2095".toList):=by kernel_rfl
theorem goes:false=Rows.certextPointsRow.goesBy Tryz.pinned.checked.prog:=by kernel_rfl
theorem looks:false=Tryz.pinned.checked.prog.looks []:=by kernel_rfl
theorem proved:Rows.CertextPointsCardSaid :=
  Claim7.holds_tied_plain_at .later [] [.data,.data,.data,.data,.pinned] true (true,"fd56ea283c74a3ea5ccf6d3da9cebecdbdc6e4d1a5c5e4d43c6e613eb14b2095") false
    over (by simp) AmF (by simp) certextPoints_row_tie rfl ⟨rfl,rfl⟩ AmU rfl
    (fun f fn hf hfn=>by
      obtain rfl:f=4:=Option.some.inj ((show Tryz.prog.funcNamed "certpath/certpathlaw16.CertextPoints" =some 4 by kernel_rfl).symm.trans hf) |>.symm
      obtain rfl:fn=Tryz.f4:=(Option.some.inj (Tryz.func4.symm.trans hfn)).symm
      exact⟨looks,fun j t ht=>by
        rw[Tryz.params4]at ht
        have ht:=Array.mem_of_getElem? ht
        simp only[List.mem_toArray,List.mem_cons,List.mem_nil_iff,or_false]at ht
        rcases ht with rfl | rfl | rfl
        all_goals exact of_decide_eq_true (by kernel_rfl)⟩)
    goes
