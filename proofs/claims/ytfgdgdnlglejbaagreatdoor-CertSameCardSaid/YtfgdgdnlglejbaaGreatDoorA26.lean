import Derived.Test.YtfgdgdnlglejbaaGreatDoorA25
set_option linter.all false
namespace Go.Proofs.YtfgdgdnlglejbaaGreatDoor.certSame
open Go.ChangeShapes Go.WideShapes Go.ChangeAt Go.RowKit
open Go.Proofs.YtfgdgdnlglejbaaGreatDoor.Vm
def named:Tryz.pinned.checked.prog.funcNamed Rows.certSameRow.func=some 6:=by kernel_rfl
def inst:Tryz.f6.isInstance Tryz.pinned.checked.prog Rows.certSameRow.origin Rows.certSameRow.targs:=D6 (by kernel_rfl)
def wrap:Tryz.f6.isWrapper Tryz.pinned.checked.prog Rows.certSameRow.wrapper Rows.certSameRow.mainSum:=by unfold Func.isWrapper;first | (rw [Dt (by decide +kernel)];kernel_rfl) | (rw [Du (by decide +kernel)];exact⟨rfl,rfl⟩)
def A1U {H:Type} (enc:TypeId×Value->H):Rows.certSameRow.pre enc Tryz.pinned.checked.prog Tryz.f6 (OpenSpec.ofChange Rows.certSameSpec)=(fun w args=>(Rows.certSameSpec.pre enc Tryz.prog Tryz.f6 Rows.certSameRow.domain false w args/\laidMetH Tryz.prog tabs w)/\sizedMet enc Tryz.prog Tryz.f6 (OpenSpec.ofChange Rows.certSameSpec) false w args):=rfl
def over:Rows.certSameRow.holds Tryz.pinned (OpenSpec.ofChange Rows.certSameSpec) :=
 OpenClaim.holds_of_wide 6 Tryz.f6 rfl rfl rfl rfl rfl rfl rfl ⟨rfl,rfl,rfl,rfl,rfl⟩ rfl rfl rfl rfl rfl named Tryz.func6 closed inst wrap
  (fun os started H enc _=>by rw[A1U];exact lifted os started H enc)
def A1v:Rows.certSameRow.wfByText (OpenSpec.ofChange Rows.certSameSpec)=true:=by kernel_rfl
def A1G:Tryz.pinned.checked.prog.mainIs=some (true,"ca4c957696d50d4a4faef737824014bdd4e302ff03ec6725ee572da8e0a32390".toList):=by kernel_rfl
def AwV {P:Program} (h:P.funcs.toList.any Func.goes=false) (f:FuncId):P.goes f=false:=by
 have h1:P.funcs.any Func.goes=false:=by rw[<- Array.any_toList];exact h
 have h2:((P.closure f).any fun g=>(P.funcs[g]?).any Func.goes)=false:=by
  rw[GH];intro g _ hg;cases e:P.funcs[g]? with
  | none=>rw[e]at hg;cases hg
  | some fn =>
   rw[e]at hg;have hm:fn∈P.funcs.toList:=by rw[Array.mem_toList_iff];exact Ih e
   exact GH.1 h fn hm hg
 unfold Program.goes;rw[h1,h2,Bool.and_false];rfl
def ArY {P:Program} (h:P.funcs.toList.any Func.goes=false) (c:OpenClaim):false=c.goesBy P:=by
 have h1: ∀ f,P.goes f=false:=AwV h
 have h2:P.goesFrom c.func=false:=by
  unfold Program.goesFrom;cases P.funcNamed c.func with
  | none=>rfl
  | some f=>exact h1 f
 have h3:P.inits.toList.any P.goes=false:=by rw[GH];intro f _ hf;rw[h1 f]at hf;cases hf
 unfold OpenClaim.goesBy Program.goesAt;rw[h2,GL];cases c.start<;>first | rfl | exact h3.symm
def goes:false=Rows.certSameRow.goesBy Tryz.pinned.checked.prog:=ArY (by kernel_rfl) _
def looks:false=Tryz.pinned.checked.prog.looks []:=by kernel_rfl
def proved:Rows.CertSameCardSaid :=
 Claim7.holds_tied_plain_at .later [] [.data,.data,.data,.data,.data,.pinned] true (true,"ca4c957696d50d4a4faef737824014bdd4e302ff03ec6725ee572da8e0a32390") false
  over (by simp) A1v (by simp) certSame_row_tie rfl ⟨rfl,rfl⟩ A1G rfl
  (fun f fn hf hfn=>by obtain rfl:f=6:=FU ((show Tryz.prog.funcNamed "certpath/certpathlaw17.CertSame" =some 6 by kernel_rfl).symm.trans hf) |>.symm;obtain rfl:fn=Tryz.f6:=(FU (Tryz.func6.symm.trans hfn)).symm;exact⟨looks,fun j t ht=>by rw[Tryz.params6]at ht;have ht:=Ih ht;simp only[List.mem_toArray,D8,List.mem_nil_iff,Fz]at ht;rcases ht with rfl | rfl;all_goals exact D6 (by kernel_rfl)⟩)
  goes
end Go.Proofs.YtfgdgdnlglejbaaGreatDoor.certSame
