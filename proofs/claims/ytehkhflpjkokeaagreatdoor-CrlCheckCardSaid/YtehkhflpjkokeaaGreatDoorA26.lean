import Derived.Test.YtehkhflpjkokeaaGreatDoorA25
set_option linter.all false
namespace Go.Proofs.YtehkhflpjkokeaaGreatDoor.crlCheck
open Go.ChangeShapes Go.WideShapes Go.ChangeAt Go.RowKit
open Go.Proofs.YtehkhflpjkokeaaGreatDoor.Vm
def named:Tryz.pinned.checked.prog.funcNamed Rows.crlCheckRow.func=some 3:=by kernel_rfl
def inst:Tryz.f3.isInstance Tryz.pinned.checked.prog Rows.crlCheckRow.origin Rows.crlCheckRow.targs:=D9 (by kernel_rfl)
def wrap:Tryz.f3.isWrapper Tryz.pinned.checked.prog Rows.crlCheckRow.wrapper Rows.crlCheckRow.mainSum:=by unfold Func.isWrapper;first | (rw [Dp (by decide +kernel)];kernel_rfl) | (rw [Dk (by decide +kernel)];exact⟨rfl,rfl⟩)
def AwH {H:Type} (enc:TypeId×Value->H):Rows.crlCheckRow.pre enc Tryz.pinned.checked.prog Tryz.f3 (OpenSpec.ofChange Rows.crlCheckSpec)=(fun w args=>(Rows.crlCheckSpec.pre enc Tryz.prog Tryz.f3 Rows.crlCheckRow.domain false w args/\laidMetH Tryz.prog tabs w)/\sizedMet enc Tryz.prog Tryz.f3 (OpenSpec.ofChange Rows.crlCheckSpec) false w args):=rfl
def over:Rows.crlCheckRow.holds Tryz.pinned (OpenSpec.ofChange Rows.crlCheckSpec) :=
 OpenClaim.holds_of_wide 3 Tryz.f3 rfl rfl rfl rfl rfl rfl rfl ⟨rfl,rfl,rfl,rfl,rfl⟩ rfl rfl rfl rfl rfl named Tryz.func3 closed inst wrap
  (fun os started H enc _=>by rw[AwH];exact lifted os started H enc)
def Aws:Rows.crlCheckRow.wfByText (OpenSpec.ofChange Rows.crlCheckSpec)=true:=by kernel_rfl
def Aw6:Tryz.pinned.checked.prog.mainIs=some (true,"655c1d0864c75705669e4e7fd655cebaea0689ebaaa029a89f7fe33ba689b1f7".toList):=by kernel_rfl
def ArU {P:Program} (h:P.funcs.toList.any Func.goes=false) (f:FuncId):P.goes f=false:=by
 have h1:P.funcs.any Func.goes=false:=by rw[<- Array.any_toList];exact h
 have h2:((P.closure f).any fun g=>(P.funcs[g]?).any Func.goes)=false:=by
  rw[Fe];intro g _ hg;cases e:P.funcs[g]? with
  | none=>rw[e]at hg;cases hg
  | some fn =>
   rw[e]at hg;have hm:fn∈P.funcs.toList:=by rw[Array.mem_toList_iff];exact IB e
   exact Fe.1 h fn hm hg
 unfold Program.goes;rw[h1,h2,Hr];rfl
def AmF {P:Program} (h:P.funcs.toList.any Func.goes=false) (c:OpenClaim):false=c.goesBy P:=by
 have h1: ∀ f,P.goes f=false:=ArU h
 have h2:P.goesFrom c.func=false:=by
  unfold Program.goesFrom;cases P.funcNamed c.func with
  | none=>rfl
  | some f=>exact h1 f
 have h3:P.inits.toList.any P.goes=false:=by rw[Fe];intro f _ hf;rw[h1 f]at hf;cases hf
 unfold OpenClaim.goesBy Program.goesAt;rw[h2,EN];cases c.start<;>first | rfl | exact h3.symm
def goes:false=Rows.crlCheckRow.goesBy Tryz.pinned.checked.prog:=AmF (by kernel_rfl) _
def looks:false=Tryz.pinned.checked.prog.looks []:=by kernel_rfl
def proved:Rows.CrlCheckCardSaid :=
 Claim7.holds_tied_plain_at .later [] [.data,.data,.data,.data,.data,.pinned] true (true,"655c1d0864c75705669e4e7fd655cebaea0689ebaaa029a89f7fe33ba689b1f7") false
  over (by simp) Aws (by simp) crlCheck_row_tie rfl ⟨rfl,rfl⟩ Aw6 rfl
  (fun f fn hf hfn=>by obtain rfl:f=3:=GG ((show Tryz.prog.funcNamed "certpath/certpathlaw18.CrlCheck" =some 3 by kernel_rfl).symm.trans hf) |>.symm;obtain rfl:fn=Tryz.f3:=(GG (Tryz.func3.symm.trans hfn)).symm;exact⟨looks,fun j t ht=>by rw[Tryz.params3]at ht;have ht:=IB ht;simp only[List.mem_toArray,D6,List.mem_nil_iff,Hl]at ht;rcases ht with rfl | rfl;all_goals exact D9 (by kernel_rfl)⟩)
  goes
end Go.Proofs.YtehkhflpjkokeaaGreatDoor.crlCheck
