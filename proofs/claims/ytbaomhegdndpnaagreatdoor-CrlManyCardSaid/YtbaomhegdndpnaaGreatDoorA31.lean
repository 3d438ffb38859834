import Derived.Test.YtbaomhegdndpnaaGreatDoorA30
set_option linter.all false
namespace Go.Proofs.YtbaomhegdndpnaaGreatDoor.crlMany
open Go.ChangeShapes Go.WideShapes Go.ChangeAt Go.RowKit
open Go.Proofs.YtbaomhegdndpnaaGreatDoor.Vm
theorem named:Tryz.pinned.checked.prog.funcNamed Rows.crlManyRow.func=some 3:=by kernel_rfl
theorem inst:Tryz.f3.isInstance Tryz.pinned.checked.prog Rows.crlManyRow.origin Rows.crlManyRow.targs:=of_decide_eq_true (by kernel_rfl)
theorem wrap:Tryz.f3.isWrapper Tryz.pinned.checked.prog Rows.crlManyRow.wrapper Rows.crlManyRow.mainSum:=by
  unfold Func.isWrapper;first | (rw [if_pos (by decide +kernel)];kernel_rfl) | (rw [if_neg (by decide +kernel)];exact⟨rfl,rfl⟩)
theorem AfD {H:Type} (enc:TypeId×Value->H):Rows.crlManyRow.pre enc Tryz.pinned.checked.prog Tryz.f3 (OpenSpec.ofChange Rows.crlManySpec)=(fun w args=>(Rows.crlManySpec.pre enc Tryz.prog Tryz.f3 Rows.crlManyRow.domain false w args/\laidMetH Tryz.prog tabs w)/\sizedMet enc Tryz.prog Tryz.f3 (OpenSpec.ofChange Rows.crlManySpec) false w args):=rfl
theorem over:Rows.crlManyRow.holds Tryz.pinned (OpenSpec.ofChange Rows.crlManySpec) :=
  OpenClaim.holds_of_wide 3 Tryz.f3 rfl rfl rfl rfl rfl rfl rfl ⟨rfl,rfl,rfl,rfl,rfl⟩ rfl rfl rfl rfl rfl named Tryz.func3 closed inst wrap
    (fun os started H enc _=>by rw[AfD];exact lifted os started H enc)
theorem Afw:Rows.crlManyRow.wfByText (OpenSpec.ofChange Rows.crlManySpec)=true:=by kernel_rfl
theorem Af7:Tryz.pinned.checked.prog.mainIs=some (true,"d1ebac2110c1731dcc4862d9841fff2d2a7b6a67d052fa6a6114d135e7102232".toList):=by kernel_rfl
theorem goes:false=Rows.crlManyRow.goesBy Tryz.pinned.checked.prog:=by kernel_rfl
theorem looks:false=Tryz.pinned.checked.prog.looks []:=by kernel_rfl
theorem proved:Rows.CrlManyCardSaid :=
  Claim7.holds_tied_plain_at .later [] [.data,.data,.data,.data,.data,.pinned] true (true,"d1ebac2110c1731dcc4862d9841fff2d2a7b6a67d052fa6a6114d135e7102232") false
    over (by simp) Afw (by simp) crlMany_row_tie rfl ⟨rfl,rfl⟩ Af7 rfl
    (fun f fn hf hfn=>by
      obtain rfl:f=3:=Option.some.inj ((show Tryz.prog.funcNamed "certpath/certpathlaw18.CrlMany" =some 3 by kernel_rfl).symm.trans hf) |>.symm
      obtain rfl:fn=Tryz.f3:=(Option.some.inj (Tryz.func3.symm.trans hfn)).symm
      exact⟨looks,fun j t ht=>by
        rw[Tryz.params3]at ht
        have ht:=Array.mem_of_getElem? ht
        simp only[List.mem_toArray,List.mem_cons,List.mem_nil_iff,or_false]at ht
        rcases ht with rfl | rfl
        all_goals exact of_decide_eq_true (by kernel_rfl)⟩)
    goes
