import Derived.Test.YtpaimpmokhihmaaGreatDoorA25
set_option linter.all false
namespace Go.Proofs.YtpaimpmokhihmaaGreatDoor.repositoryReorders
open Go.ChangeShapes Go.WideShapes Go.ChangeAt Go.RowKit
open Go.Proofs.YtpaimpmokhihmaaGreatDoor.Vm
def named:Tryz.pinned.checked.prog.funcNamed Rows.repositoryReordersRow.func=some 3:=by kernel_rfl
def inst:Tryz.f3.isInstance Tryz.pinned.checked.prog Rows.repositoryReordersRow.origin Rows.repositoryReordersRow.targs:=Ea (by kernel_rfl)
def wrap:Tryz.f3.isWrapper Tryz.pinned.checked.prog Rows.repositoryReordersRow.wrapper Rows.repositoryReordersRow.mainSum:=by unfold Func.isWrapper;first | (rw [Dw (by decide +kernel)];kernel_rfl) | (rw [Du (by decide +kernel)];exact⟨rfl,rfl⟩)
def AhX {H:Type} (enc:TypeId×Value->H):Rows.repositoryReordersRow.pre enc Tryz.pinned.checked.prog Tryz.f3 (OpenSpec.ofChange Rows.repositoryReordersSpec)=(fun w args=>(Rows.repositoryReordersSpec.pre enc Tryz.prog Tryz.f3 Rows.repositoryReordersRow.domain false w args/\laidMetH Tryz.prog tabs w)/\sizedMet enc Tryz.prog Tryz.f3 (OpenSpec.ofChange Rows.repositoryReordersSpec) false w args):=rfl
def over:Rows.repositoryReordersRow.holds Tryz.pinned (OpenSpec.ofChange Rows.repositoryReordersSpec) :=
 OpenClaim.holds_of_wide 3 Tryz.f3 rfl rfl rfl rfl rfl rfl rfl ⟨rfl,rfl,rfl,rfl,rfl⟩ rfl rfl rfl rfl rfl named Tryz.func3 closed inst wrap
  (fun os started H enc _=>by rw[AhX];exact lifted os started H enc)
def AhC:Rows.repositoryReordersRow.wfByText (OpenSpec.ofChange Rows.repositoryReordersSpec)=true:=by kernel_rfl
def AhP:Tryz.pinned.checked.prog.mainIs=some (true,"cc2ece79d55b8fda8e0f559ee66afae580e8fee9ba6db6e4d4c8596ddb454a4f".toList):=by kernel_rfl
def Afy {P:Program} (h:P.funcs.toList.any Func.goes=false) (f:FuncId):P.goes f=false:=by
 have h1:P.funcs.any Func.goes=false:=by rw[<- Array.any_toList];exact h
 have h2:((P.closure f).any fun g=>(P.funcs[g]?).any Func.goes)=false:=by
  rw[Fh];intro g _ hg;cases e:P.funcs[g]? with
  | none=>rw[e]at hg;cases hg
  | some fn =>
   rw[e]at hg;have hm:fn∈P.funcs.toList:=by rw[Array.mem_toList_iff];exact FX e
   exact Fh.1 h fn hm hg
 unfold Program.goes;rw[h1,h2,Bool.and_false];rfl
def Acw {P:Program} (h:P.funcs.toList.any Func.goes=false) (c:OpenClaim):false=c.goesBy P:=by
 have h1: ∀ f,P.goes f=false:=Afy h
 have h2:P.goesFrom c.func=false:=by
  unfold Program.goesFrom;cases P.funcNamed c.func with
  | none=>rfl
  | some f=>exact h1 f
 have h3:P.inits.toList.any P.goes=false:=by rw[Fh];intro f _ hf;rw[h1 f]at hf;cases hf
 unfold OpenClaim.goesBy Program.goesAt;rw[h2,Bool.false_or];cases c.start<;>first | rfl | exact h3.symm
def goes:false=Rows.repositoryReordersRow.goesBy Tryz.pinned.checked.prog:=Acw (by kernel_rfl) _
def looks:false=Tryz.pinned.checked.prog.looks []:=by kernel_rfl
def proved:Rows.RepositoryReordersCardSaid :=
 Claim7.holds_tied_plain_at .later [] [.data,.data,.data,.data,.data,.pinned] true (true,"cc2ece79d55b8fda8e0f559ee66afae580e8fee9ba6db6e4d4c8596ddb454a4f") false
  over (by simp) AhC (by simp) repositoryReorders_row_tie rfl ⟨rfl,rfl⟩ AhP rfl
  (fun f fn hf hfn=>by obtain rfl:f=3:=ET ((show Tryz.prog.funcNamed "certpath/certpathlaw26.RepositoryReorders" =some 3 by kernel_rfl).symm.trans hf) |>.symm;obtain rfl:fn=Tryz.f3:=(ET (Tryz.func3.symm.trans hfn)).symm;exact⟨looks,fun j t ht=>by rw[Tryz.params3]at ht;have ht:=FX ht;simp only[List.mem_toArray,Dz,List.mem_nil_iff,or_false]at ht;rcases ht with rfl | rfl;all_goals exact Ea (by kernel_rfl)⟩)
  goes
end Go.Proofs.YtpaimpmokhihmaaGreatDoor.repositoryReorders
