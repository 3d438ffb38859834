import Derived.Test.YtbnphelpndnnfaaGreatDoorA25
set_option linter.all false
namespace Go.Proofs.YtbnphelpndnnfaaGreatDoor.crlBack
open Go.ChangeShapes Go.WideShapes Go.ChangeAt Go.RowKit
open Go.Proofs.YtbnphelpndnnfaaGreatDoor.Vm
theorem named:Tryz.pinned.checked.prog.funcNamed Rows.crlBackRow.func=some 3:=by kernel_rfl
theorem inst:Tryz.f3.isInstance Tryz.pinned.checked.prog Rows.crlBackRow.origin Rows.crlBackRow.targs:=of_decide_eq_true (by kernel_rfl)
theorem wrap:Tryz.f3.isWrapper Tryz.pinned.checked.prog Rows.crlBackRow.wrapper Rows.crlBackRow.mainSum:=by
  unfold Func.isWrapper;first | (rw [if_pos (by decide +kernel)];kernel_rfl) | (rw [if_neg (by decide +kernel)];exact⟨rfl,rfl⟩)
theorem AcB {H:Type} (enc:TypeId×Value->H):Rows.crlBackRow.pre enc Tryz.pinned.checked.prog Tryz.f3 (OpenSpec.ofChange Rows.crlBackSpec)=(fun w args=>(Rows.crlBackSpec.pre enc Tryz.prog Tryz.f3 Rows.crlBackRow.domain false w args/\laidMetH Tryz.prog tabs w)/\sizedMet enc Tryz.prog Tryz.f3 (OpenSpec.ofChange Rows.crlBackSpec) false w args):=rfl
theorem over:Rows.crlBackRow.holds Tryz.pinned (OpenSpec.ofChange Rows.crlBackSpec) :=
  OpenClaim.holds_of_wide 3 Tryz.f3 rfl rfl rfl rfl rfl rfl rfl ⟨rfl,rfl,rfl,rfl,rfl⟩ rfl rfl rfl rfl rfl named Tryz.func3 closed inst wrap
    (fun os started H enc _=>by rw[AcB];exact lifted os started H enc)
theorem Acr:Rows.crlBackRow.wfByText (OpenSpec.ofChange Rows.crlBackSpec)=true:=by kernel_rfl
theorem Ac4:Tryz.pinned.checked.prog.mainIs=some (true,"c0beb6102472d2a485d0b03ef8c20467a652cc91d79ea5d0ea17f5425fadd269".toList):=by kernel_rfl
theorem yS {P:Program} (h:P.funcs.toList.any Func.goes=false) (f:FuncId):P.goes f=false:=by
  have h1:P.funcs.any Func.goes=false:=by rw[<- Array.any_toList];exact h
  have h2:((P.closure f).any fun g=>(P.funcs[g]?).any Func.goes)=false:=by
    rw[List.any_eq_false]
    intro g _ hg
    cases e:P.funcs[g]? with
    | none=>rw[e]at hg;cases hg
    | some fn =>
      rw[e]at hg
      have hm:fn∈P.funcs.toList:=by rw[Array.mem_toList_iff];exact Array.mem_of_getElem? e
      exact List.any_eq_false.1 h fn hm hg
  unfold Program.goes
  rw[h1,h2,Bool.and_false];rfl
theorem qP {P:Program} (h:P.funcs.toList.any Func.goes=false) (c:OpenClaim):false=c.goesBy P:=by
  have h1: ∀ f,P.goes f=false:=yS h
  have h2:P.goesFrom c.func=false:=by
    unfold Program.goesFrom
    cases P.funcNamed c.func with
    | none=>rfl
    | some f=>exact h1 f
  have h3:P.inits.toList.any P.goes=false:=by rw[List.any_eq_false];intro f _ hf;rw[h1 f]at hf;cases hf
  unfold OpenClaim.goesBy Program.goesAt
  rw[h2,Bool.false_or]
  cases c.start<;>first | rfl | exact h3.symm
theorem goes:false=Rows.crlBackRow.goesBy Tryz.pinned.checked.prog:=qP (by kernel_rfl) _
theorem looks:false=Tryz.pinned.checked.prog.looks []:=by kernel_rfl
theorem proved:Rows.CrlBackCardSaid :=
  Claim7.holds_tied_plain_at .later [] [.data,.data,.data,.data,.data,.pinned] true (true,"c0beb6102472d2a485d0b03ef8c20467a652cc91d79ea5d0ea17f5425fadd269") false
    over (by simp) Acr (by simp) crlBack_row_tie rfl ⟨rfl,rfl⟩ Ac4 rfl
    (fun f fn hf hfn=>by
      obtain rfl:f=3:=Option.some.inj ((show Tryz.prog.funcNamed "certpath/certpathlaw18.CrlBack" =some 3 by kernel_rfl).symm.trans hf) |>.symm
      obtain rfl:fn=Tryz.f3:=(Option.some.inj (Tryz.func3.symm.trans hfn)).symm
      exact⟨looks,fun j t ht=>by
        rw[Tryz.params3]at ht
        have ht:=Array.mem_of_getElem? ht
        simp only[List.mem_toArray,List.mem_cons,List.mem_nil_iff,or_false]at ht
        rcases ht with rfl | rfl
        all_goals exact of_decide_eq_true (by kernel_rfl)⟩)
    goes
