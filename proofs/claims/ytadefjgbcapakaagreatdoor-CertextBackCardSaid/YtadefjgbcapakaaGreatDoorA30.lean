import Derived.Test.YtadefjgbcapakaaGreatDoorA29
set_option linter.all false
namespace Go.Proofs.YtadefjgbcapakaaGreatDoor.certextBack
open Go.ChangeShapes Go.WideShapes Go.ChangeAt Go.RowKit
open Go.Proofs.YtadefjgbcapakaaGreatDoor.Vm
theorem named:Tryz.pinned.checked.prog.funcNamed Rows.certextBackRow.func=some 7:=by kernel_rfl
theorem inst:Tryz.f7.isInstance Tryz.pinned.checked.prog Rows.certextBackRow.origin Rows.certextBackRow.targs:=of_decide_eq_true (by kernel_rfl)
theorem wrap:Tryz.f7.isWrapper Tryz.pinned.checked.prog Rows.certextBackRow.wrapper Rows.certextBackRow.mainSum:=by
  unfold Func.isWrapper;first | (rw [if_pos (by decide +kernel)];kernel_rfl) | (rw [if_neg (by decide +kernel)];exact⟨rfl,rfl⟩)
theorem Ap1 {H:Type} (enc:TypeId×Value->H):Rows.certextBackRow.pre enc Tryz.pinned.checked.prog Tryz.f7 (OpenSpec.ofChange Rows.certextBackSpec)=(fun w args=>(Rows.certextBackSpec.pre enc Tryz.prog Tryz.f7 Rows.certextBackRow.domain false w args/\laidMetH Tryz.prog tabs w)/\sizedMet enc Tryz.prog Tryz.f7 (OpenSpec.ofChange Rows.certextBackSpec) false w args):=rfl
theorem over:Rows.certextBackRow.holds Tryz.pinned (OpenSpec.ofChange Rows.certextBackSpec) :=
  OpenClaim.holds_of_wide 7 Tryz.f7 rfl rfl rfl rfl rfl rfl rfl ⟨rfl,rfl,rfl,rfl,rfl⟩ rfl rfl rfl rfl rfl named Tryz.func7 closed inst wrap
    (fun os started H enc _=>by rw[Ap1];exact lifted os started H enc)
theorem AoY:Rows.certextBackRow.wfByText (OpenSpec.ofChange Rows.certextBackSpec)=true:=by kernel_rfl
theorem Apr:Tryz.pinned.checked.prog.mainIs=some (true,"fd56ea283c74a3ea5ccf6d3da9cebecdbdc6e4d1a5c5e4d43c6e613eb14b2095".toList):=by kernel_rfl
theorem goes:false=Rows.certextBackRow.goesBy Tryz.pinned.checked.prog:=by kernel_rfl
theorem looks:false=Tryz.pinned.checked.prog.looks []:=by kernel_rfl
theorem proved:Rows.CertextBackCardSaid :=
  Claim7.holds_tied_plain_at .later [] [.data,.data,.data,.data,.pinned] true (true,"fd56ea283c74a3ea5ccf6d3da9cebecdbdc6e4d1a5c5e4d43c6e613eb14b2095") false
    over (by simp) AoY (by simp) certextBack_row_tie rfl ⟨rfl,rfl⟩ Apr rfl
    (fun f fn hf hfn=>by
      obtain rfl:f=7:=Option.some.inj ((show Tryz.prog.funcNamed "certpath/certpathlaw16.CertextBack" =some 7 by kernel_rfl).symm.trans hf) |>.symm
      obtain rfl:fn=Tryz.f7:=(Option.some.inj (Tryz.func7.symm.trans hfn)).symm
      exact⟨looks,fun j t ht=>by
        rw[Tryz.params7]at ht
        have ht:=Array.mem_of_getElem? ht
        simp only[List.mem_toArray,List.mem_cons,List.mem_nil_iff,or_false]at ht
        rcases ht with rfl
        all_goals exact of_decide_eq_true (by kernel_rfl)⟩)
    goes
