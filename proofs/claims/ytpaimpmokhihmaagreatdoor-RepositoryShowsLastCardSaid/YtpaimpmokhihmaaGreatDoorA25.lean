import Derived.Test.YtpaimpmokhihmaaGreatDoorA24
set_option linter.all false
namespace Go.Proofs.YtpaimpmokhihmaaGreatDoor.repositoryShowsLast
open Go.ChangeShapes Go.WideShapes Go.ChangeAt Go.RowKit
open Go.Proofs.YtpaimpmokhihmaaGreatDoor.Vm
def named:Tryz.pinned.checked.prog.funcNamed Rows.repositoryShowsLastRow.func=some 4:=by kernel_rfl
def inst:Tryz.f4.isInstance Tryz.pinned.checked.prog Rows.repositoryShowsLastRow.origin Rows.repositoryShowsLastRow.targs:=DZ (by kernel_rfl)
def wrap:Tryz.f4.isWrapper Tryz.pinned.checked.prog Rows.repositoryShowsLastRow.wrapper Rows.repositoryShowsLastRow.mainSum:=by unfold Func.isWrapper;first | (rw [Dw (by decide +kernel)];kernel_rfl) | (rw [Du (by decide +kernel)];exact⟨rfl,rfl⟩)
def Ah9 {H:Type} (enc:TypeId×Value->H):Rows.repositoryShowsLastRow.pre enc Tryz.pinned.checked.prog Tryz.f4 (OpenSpec.ofChange Rows.repositoryShowsLastSpec)=(fun w args=>(Rows.repositoryShowsLastSpec.pre enc Tryz.prog Tryz.f4 Rows.repositoryShowsLastRow.domain false w args/\laidMetH Tryz.prog tabs w)/\sizedMet enc Tryz.prog Tryz.f4 (OpenSpec.ofChange Rows.repositoryShowsLastSpec) false w args):=rfl
def over:Rows.repositoryShowsLastRow.holds Tryz.pinned (OpenSpec.ofChange Rows.repositoryShowsLastSpec) :=
 OpenClaim.holds_of_wide 4 Tryz.f4 rfl rfl rfl rfl rfl rfl rfl ⟨rfl,rfl,rfl,rfl,rfl⟩ rfl rfl rfl rfl rfl named Tryz.func4 closed inst wrap
  (fun os started H enc _=>by rw[Ah9];exact lifted os started H enc)
def Ahs:Rows.repositoryShowsLastRow.wfByText (OpenSpec.ofChange Rows.repositoryShowsLastSpec)=true:=by kernel_rfl
def Ah1:Tryz.pinned.checked.prog.mainIs=some (true,"cc2ece79d55b8fda8e0f559ee66afae580e8fee9ba6db6e4d4c8596ddb454a4f".toList):=by kernel_rfl
def Afl {P:Program} (h:P.funcs.toList.any Func.goes=false) (f:FuncId):P.goes f=false:=by
 have h1:P.funcs.any Func.goes=false:=by rw[<- Array.any_toList];exact h
 have h2:((P.closure f).any fun g=>(P.funcs[g]?).any Func.goes)=false:=by
  rw[F6];intro g _ hg;cases e:P.funcs[g]? with
  | none=>rw[e]at hg;cases hg
  | some fn =>
   rw[e]at hg;have hm:fn∈P.funcs.toList:=by rw[Array.mem_toList_iff];exact FQ e
   exact F6.1 h fn hm hg
 unfold Program.goes;rw[h1,h2,Bool.and_false];rfl
def Acj {P:Program} (h:P.funcs.toList.any Func.goes=false) (c:OpenClaim):false=c.goesBy P:=by
 have h1: ∀ f,P.goes f=false:=Afl h
 have h2:P.goesFrom c.func=false:=by
  unfold Program.goesFrom;cases P.funcNamed c.func with
  | none=>rfl
  | some f=>exact h1 f
 have h3:P.inits.toList.any P.goes=false:=by rw[F6];intro f _ hf;rw[h1 f]at hf;cases hf
 unfold OpenClaim.goesBy Program.goesAt;rw[h2,Bool.false_or];cases c.start<;>first | rfl | exact h3.symm
def goes:false=Rows.repositoryShowsLastRow.goesBy Tryz.pinned.checked.prog:=Acj (by kernel_rfl) _
def looks:false=Tryz.pinned.checked.prog.looks []:=by kernel_rfl
def proved:Rows.RepositoryShowsLastCardSaid :=
 Claim7.holds_tied_plain_at .later [] [.data,.data,.data,.data,.data,.pinned] true (true,"cc2ece79d55b8fda8e0f559ee66afae580e8fee9ba6db6e4d4c8596ddb454a4f") false
  over (by simp) Ahs (by simp) repositoryShowsLast_row_tie rfl ⟨rfl,rfl⟩ Ah1 rfl
  (fun f fn hf hfn=>by obtain rfl:f=4:=EM ((show Tryz.prog.funcNamed "certpath/certpathlaw26.RepositoryShowsLast" =some 4 by kernel_rfl).symm.trans hf) |>.symm;obtain rfl:fn=Tryz.f4:=(EM (Tryz.func4.symm.trans hfn)).symm;exact⟨looks,fun j t ht=>by rw[Tryz.params4]at ht;have ht:=FQ ht;simp only[List.mem_toArray,Dx,List.mem_nil_iff,or_false]at ht;rcases ht with rfl | rfl;all_goals exact DZ (by kernel_rfl)⟩)
  goes
end Go.Proofs.YtpaimpmokhihmaaGreatDoor.repositoryShowsLast
