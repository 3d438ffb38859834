import Derived.Test.YtbaomhegdndpnaaGreatDoorA25
set_option linter.all false
namespace Go.Proofs.YtbaomhegdndpnaaGreatDoor.crlEntries
open Go.ChangeShapes Go.WideShapes Go.ChangeAt Go.RowKit
open Go.Proofs.YtbaomhegdndpnaaGreatDoor.Vm
theorem named:Tryz.pinned.checked.prog.funcNamed Rows.crlEntriesRow.func=some 7:=by kernel_rfl
theorem inst:Tryz.f7.isInstance Tryz.pinned.checked.prog Rows.crlEntriesRow.origin Rows.crlEntriesRow.targs:=of_decide_eq_true (by kernel_rfl)
theorem wrap:Tryz.f7.isWrapper Tryz.pinned.checked.prog Rows.crlEntriesRow.wrapper Rows.crlEntriesRow.mainSum:=by
  unfold Func.isWrapper;first | (rw [if_pos (by decide +kernel)];kernel_rfl) | (rw [if_neg (by decide +kernel)];exact⟨rfl,rfl⟩)
theorem Asl {H:Type} (enc:TypeId×Value->H):Rows.crlEntriesRow.pre enc Tryz.pinned.checked.prog Tryz.f7 (OpenSpec.ofChange Rows.crlEntriesSpec)=(fun w args=>(Rows.crlEntriesSpec.pre enc Tryz.prog Tryz.f7 Rows.crlEntriesRow.domain false w args/\laidMetH Tryz.prog tabs w)/\sizedMet enc Tryz.prog Tryz.f7 (OpenSpec.ofChange Rows.crlEntriesSpec) false w args):=rfl
theorem over:Rows.crlEntriesRow.holds Tryz.pinned (OpenSpec.ofChange Rows.crlEntriesSpec) :=
  OpenClaim.holds_of_wide 7 Tryz.f7 rfl rfl rfl rfl rfl rfl rfl ⟨rfl,rfl,rfl,rfl,rfl⟩ rfl rfl rfl rfl rfl named Tryz.func7 closed inst wrap
    (fun os started H enc _=>by rw[Asl];exact lifted os started H enc)
theorem ArB:Rows.crlEntriesRow.wfByText (OpenSpec.ofChange Rows.crlEntriesSpec)=true:=by kernel_rfl
theorem ArX:Tryz.pinned.checked.prog.mainIs=some (true,"d1ebac2110c1731dcc4862d9841fff2d2a7b6a67d052fa6a6114d135e7102232".toList):=by kernel_rfl
theorem goes:false=Rows.crlEntriesRow.goesBy Tryz.pinned.checked.prog:=by kernel_rfl
theorem looks:false=Tryz.pinned.checked.prog.looks []:=by kernel_rfl
theorem proved:Rows.CrlEntriesCardSaid :=
  Claim7.holds_tied_plain_at .later [] [.data,.data,.data,.data,.data,.pinned] true (true,"d1ebac2110c1731dcc4862d9841fff2d2a7b6a67d052fa6a6114d135e7102232") false
    over (by simp) ArB (by simp) crlEntries_row_tie rfl ⟨rfl,rfl⟩ ArX rfl
    (fun f fn hf hfn=>by
      obtain rfl:f=7:=Option.some.inj ((show Tryz.prog.funcNamed "certpath/certpathlaw18.CrlEntries" =some 7 by kernel_rfl).symm.trans hf) |>.symm
      obtain rfl:fn=Tryz.f7:=(Option.some.inj (Tryz.func7.symm.trans hfn)).symm
      exact⟨looks,fun j t ht=>by
        rw[Tryz.params7]at ht
        have ht:=Array.mem_of_getElem? ht
        simp only[List.mem_toArray,List.mem_cons,List.mem_nil_iff,or_false]at ht
        rcases ht with rfl
        all_goals exact of_decide_eq_true (by kernel_rfl)⟩)
    goes
