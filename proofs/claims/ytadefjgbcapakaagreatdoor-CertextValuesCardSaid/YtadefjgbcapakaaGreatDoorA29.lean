import Derived.Test.YtadefjgbcapakaaGreatDoorA28
set_option linter.all false
namespace Go.Proofs.YtadefjgbcapakaaGreatDoor.certextValues
open Go.ChangeShapes Go.WideShapes Go.ChangeAt Go.RowKit
open Go.Proofs.YtadefjgbcapakaaGreatDoor.Vm
theorem named:Tryz.pinned.checked.prog.funcNamed Rows.certextValuesRow.func=some 6:=by kernel_rfl
theorem inst:Tryz.f6.isInstance Tryz.pinned.checked.prog Rows.certextValuesRow.origin Rows.certextValuesRow.targs:=of_decide_eq_true (by kernel_rfl)
theorem wrap:Tryz.f6.isWrapper Tryz.pinned.checked.prog Rows.certextValuesRow.wrapper Rows.certextValuesRow.mainSum:=by
  unfold Func.isWrapper;first | (rw [if_pos (by decide +kernel)];kernel_rfl) | (rw [if_neg (by decide +kernel)];exact⟨rfl,rfl⟩)
theorem AgA {H:Type} (enc:TypeId×Value->H):Rows.certextValuesRow.pre enc Tryz.pinned.checked.prog Tryz.f6 (OpenSpec.ofChange Rows.certextValuesSpec)=(fun w args=>(Rows.certextValuesSpec.pre enc Tryz.prog Tryz.f6 Rows.certextValuesRow.domain false w args/\laidMetH Tryz.prog tabs w)/\sizedMet enc Tryz.prog Tryz.f6 (OpenSpec.ofChange Rows.certextValuesSpec) false w args):=rfl
theorem over:Rows.certextValuesRow.holds Tryz.pinned (OpenSpec.ofChange Rows.certextValuesSpec) :=
  OpenClaim.holds_of_wide 6 Tryz.f6 rfl rfl rfl rfl rfl rfl rfl ⟨rfl,rfl,rfl,rfl,rfl⟩ rfl rfl rfl rfl rfl named Tryz.func6 closed inst wrap
    (fun os started H enc _=>by rw[AgA];exact lifted os started H enc)
theorem Agu:Rows.certextValuesRow.wfByText (OpenSpec.ofChange Rows.certextValuesSpec)=true:=by kernel_rfl
theorem Ag4:Tryz.pinned.checked.prog.mainIs=some (true,"fd56ea283c74a3ea5ccf6d3da9cebecdbdc6e4d1a5c5e4d43c6e613eb14b2095".toList):=by kernel_rfl
theorem goes:false=Rows.certextValuesRow.goesBy Tryz.pinned.checked.prog:=by kernel_rfl
theorem looks:false=Tryz.pinned.checked.prog.looks []:=by kernel_rfl
theorem proved:Rows.CertextValuesCardSaid :=
  Claim7.holds_tied_plain_at .later [] [.data,.data,.data,.data,.pinned] true (true,"fd56ea283c74a3ea5ccf6d3da9cebecdbdc6e4d1a5c5e4d43c6e613eb14b2095") false
    over (by simp) Agu (by simp) certextValues_row_tie rfl ⟨rfl,rfl⟩ Ag4 rfl
    (fun f fn hf hfn=>by
      obtain rfl:f=6:=Option.some.inj ((show Tryz.prog.funcNamed "certpath/certpathlaw16.CertextValues" =some 6 by kernel_rfl).symm.trans hf) |>.symm
      obtain rfl:fn=Tryz.f6:=(Option.some.inj (Tryz.func6.symm.trans hfn)).symm
      exact⟨looks,fun j t ht=>by
        rw[Tryz.params6]at ht
        have ht:=Array.mem_of_getElem? ht
        simp only[List.mem_toArray,List.mem_cons,List.mem_nil_iff,or_false]at ht
        rcases ht with rfl | rfl | rfl | rfl | rfl
        all_goals exact of_decide_eq_true (by kernel_rfl)⟩)
    goes
