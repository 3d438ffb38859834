import Derived.Test.YtacidcemomccpaaGreatDoorA27
set_option linter.all false
namespace Go.Proofs.YtacidcemomccpaaGreatDoor.requestCheck
open Go.ChangeShapes Go.WideShapes Go.ChangeAt Go.RowKit
open Go.Proofs.YtacidcemomccpaaGreatDoor.Vm
def named:Tryz.pinned.checked.prog.funcNamed Rows.requestCheckRow.func=some 3:=by kernel_rfl
def inst:Tryz.f3.isInstance Tryz.pinned.checked.prog Rows.requestCheckRow.origin Rows.requestCheckRow.targs:=DC (by kernel_rfl)
def wrap:Tryz.f3.isWrapper Tryz.pinned.checked.prog Rows.requestCheckRow.wrapper Rows.requestCheckRow.mainSum:=by unfold Func.isWrapper;first | (rw [Du (by decide +kernel)];kernel_rfl) | (rw [Dt (by decide +kernel)];exact⟨rfl,rfl⟩)
def Ayj {H:Type} (enc:TypeId×Value->H):Rows.requestCheckRow.pre enc Tryz.pinned.checked.prog Tryz.f3 (OpenSpec.ofChange Rows.requestCheckSpec)=(λw args=>(Rows.requestCheckSpec.pre enc Tryz.prog Tryz.f3 Rows.requestCheckRow.domain false w args/\laidMetH Tryz.prog tabs w)/\sizedMet enc Tryz.prog Tryz.f3 (OpenSpec.ofChange Rows.requestCheckSpec) false w args):=rfl
def over:Rows.requestCheckRow.holds Tryz.pinned (OpenSpec.ofChange Rows.requestCheckSpec) :=
 OpenClaim.holds_of_wide 3 Tryz.f3 rfl rfl rfl rfl rfl rfl rfl ⟨rfl,rfl,rfl,rfl,rfl⟩ rfl rfl rfl rfl rfl named Tryz.func3 closed inst wrap
  (λos started H enc _=>by rw[Ayj];exact lifted os started H enc)
def AxH:Rows.requestCheckRow.wfByText (OpenSpec.ofChange Rows.requestCheckSpec)=true:=by kernel_rfl
def AxW:Tryz.pinned.checked.prog.mainIs=some (true,"4c28c220404d22c39b2a23bade40a0f967c4222f99a09512d3d6f586012f161d".toList):=by kernel_rfl
def Atg {P:Program} (h:P.funcs.toList.any Func.goes=false) (f:FuncId):P.goes f=false:=by
 have h1:P.funcs.any Func.goes=false:=by rw[<- Array.any_toList];exact h
 have h2:((P.closure f).any λg=>(P.funcs[g]?).any Func.goes)=false:=by
  rw[EZ];intro g _ hg;cases e:P.funcs[g]? with
  | none=>rw[e]at hg;cases hg
  | some fn =>
   rw[e]at hg;have hm:fn∈P.funcs.toList:=by rw[Array.mem_toList_iff];exact IQ e
   exact EZ.1 h fn hm hg
 unfold Program.goes;rw[h1,h2,IK];rfl
def An9 {P:Program} (h:P.funcs.toList.any Func.goes=false) (c:OpenClaim):false=c.goesBy P:=by
 have h1: ∀ f,P.goes f=false:=Atg h
 have h2:P.goesFrom c.func=false:=by
  unfold Program.goesFrom;cases P.funcNamed c.func with
  | none=>rfl
  | some f=>exact h1 f
 have h3:P.inits.toList.any P.goes=false:=by rw[EZ];intro f _ hf;rw[h1 f]at hf;cases hf
 unfold OpenClaim.goesBy Program.goesAt;rw[h2,EL];cases c.start<;>first | rfl | exact h3.symm
def goes:false=Rows.requestCheckRow.goesBy Tryz.pinned.checked.prog:=An9 (by kernel_rfl) _
def looks:false=Tryz.pinned.checked.prog.looks []:=by kernel_rfl
def proved:Rows.RequestCheckCardSaid :=
 Claim7.holds_tied_plain_at .later [] [.data,.data,.data,.data,.pinned] true (true,"4c28c220404d22c39b2a23bade40a0f967c4222f99a09512d3d6f586012f161d") false
  over (by simp) AxH (by simp) requestCheck_row_tie rfl ⟨rfl,rfl⟩ AxW rfl
  (λf fn hf hfn=>by obtain rfl:f=3:=Fv ((show Tryz.prog.funcNamed "certpath/certpathlaw19.RequestCheck" =some 3 by kernel_rfl).symm.trans hf) |>.symm;obtain rfl:fn=Tryz.f3:=(Fv (Tryz.func3.symm.trans hfn)).symm;exact⟨looks,λj t ht=>by rw[Tryz.params3]at ht;have ht:=IQ ht;simp only[List.mem_toArray,D7,List.mem_nil_iff,GN]at ht;rcases ht with rfl | rfl;all_goals exact DC (by kernel_rfl)⟩)
  goes
end Go.Proofs.YtacidcemomccpaaGreatDoor.requestCheck
