import Derived.Test.YtadefjgbcapakaaGreatDoorA30
set_option linter.all false
namespace Go.Proofs.YtadefjgbcapakaaGreatDoor.certextAgain
open Go.ChangeShapes Go.WideShapes Go.ChangeAt Go.RowKit
open Go.Proofs.YtadefjgbcapakaaGreatDoor.Vm
theorem named:Tryz.pinned.checked.prog.funcNamed Rows.certextAgainRow.func=some 8:=by kernel_rfl
theorem inst:Tryz.f8.isInstance Tryz.pinned.checked.prog Rows.certextAgainRow.origin Rows.certextAgainRow.targs:=of_decide_eq_true (by kernel_rfl)
theorem wrap:Tryz.f8.isWrapper Tryz.pinned.checked.prog Rows.certextAgainRow.wrapper Rows.certextAgainRow.mainSum:=by
  unfold Func.isWrapper;first | (rw [if_pos (by decide +kernel)];kernel_rfl) | (rw [if_neg (by decide +kernel)];exact⟨rfl,rfl⟩)
theorem Aox {H:Type} (enc:TypeId×Value->H):Rows.certextAgainRow.pre enc Tryz.pinned.checked.prog Tryz.f8 (OpenSpec.ofChange Rows.certextAgainSpec)=(fun w args=>(Rows.certextAgainSpec.pre enc Tryz.prog Tryz.f8 Rows.certextAgainRow.domain false w args/\laidMetH Tryz.prog tabs w)/\sizedMet enc Tryz.prog Tryz.f8 (OpenSpec.ofChange Rows.certextAgainSpec) false w args):=rfl
theorem over:Rows.certextAgainRow.holds Tryz.pinned (OpenSpec.ofChange Rows.certextAgainSpec) :=
  OpenClaim.holds_of_wide 8 Tryz.f8 rfl rfl rfl rfl rfl rfl rfl ⟨rfl,rfl,rfl,rfl,rfl⟩ rfl rfl rfl rfl rfl named Tryz.func8 closed inst wrap
    (fun os started H enc _=>by rw[Aox];exact lifted os started H enc)
theorem AnS:Rows.certextAgainRow.wfByText (OpenSpec.ofChange Rows.certextAgainSpec)=true:=by kernel_rfl
theorem Aon:Tryz.pinned.checked.prog.mainIs=some (true,"fd56ea283c74a3ea5ccf6d3da9cebecdbdc6e4d1a5c5e4d43c6e613eb14b2095".toList):=by kernel_rfl
theorem goes:false=Rows.certextAgainRow.goesBy Tryz.pinned.checked.prog:=by kernel_rfl
theorem looks:false=Tryz.pinned.checked.prog.looks []:=by kernel_rfl
theorem proved:Rows.CertextAgainCardSaid :=
  Claim7.holds_tied_plain_at .later [] [.data,.data,.data,.data,.pinned] true (true,"fd56ea283c74a3ea5ccf6d3da9cebecdbdc6e4d1a5c5e4d43c6e613eb14b2095") false
    over (by simp) AnS (by simp) certextAgain_row_tie rfl ⟨rfl,rfl⟩ Aon rfl
    (fun f fn hf hfn=>by
      obtain rfl:f=8:=Option.some.inj ((show Tryz.prog.funcNamed "certpath/certpathlaw16.CertextAgain" =some 8 by kernel_rfl).symm.trans hf) |>.symm
      obtain rfl:fn=Tryz.f8:=(Option.some.inj (Tryz.func8.symm.trans hfn)).symm
      exact⟨looks,fun j t ht=>by
        rw[Tryz.params8]at ht
        have ht:=Array.mem_of_getElem? ht
        simp only[List.mem_toArray,List.mem_cons,List.mem_nil_iff,or_false]at ht
        rcases ht with rfl
        all_goals exact of_decide_eq_true (by kernel_rfl)⟩)
    goes
