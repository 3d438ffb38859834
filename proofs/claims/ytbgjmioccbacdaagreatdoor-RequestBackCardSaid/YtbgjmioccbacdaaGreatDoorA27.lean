import Derived.Test.YtbgjmioccbacdaaGreatDoorA26
set_option linter.all false
namespace Go.Proofs.YtbgjmioccbacdaaGreatDoor.requestBack
open Go.ChangeShapes Go.WideShapes Go.ChangeAt Go.RowKit
open Go.Proofs.YtbgjmioccbacdaaGreatDoor.Vm
def named:Tryz.pinned.checked.prog.funcNamed Rows.requestBackRow.func=some 3:=by kernel_rfl
def inst:Tryz.f3.isInstance Tryz.pinned.checked.prog Rows.requestBackRow.origin Rows.requestBackRow.targs:=D5 (by kernel_rfl)
def wrap:Tryz.f3.isWrapper Tryz.pinned.checked.prog Rows.requestBackRow.wrapper Rows.requestBackRow.mainSum:=by unfold Func.isWrapper;first | (rw [Dw (by decide +kernel)];kernel_rfl) | (rw [Dt (by decide +kernel)];exact⟨rfl,rfl⟩)
def AtG {H:Type} (enc:TypeId×Value->H):Rows.requestBackRow.pre enc Tryz.pinned.checked.prog Tryz.f3 (OpenSpec.ofChange Rows.requestBackSpec)=(fun w args=>(Rows.requestBackSpec.pre enc Tryz.prog Tryz.f3 Rows.requestBackRow.domain false w args/\laidMetH Tryz.prog tabs w)/\sizedMet enc Tryz.prog Tryz.f3 (OpenSpec.ofChange Rows.requestBackSpec) false w args):=rfl
def over:Rows.requestBackRow.holds Tryz.pinned (OpenSpec.ofChange Rows.requestBackSpec) :=
 OpenClaim.holds_of_wide 3 Tryz.f3 rfl rfl rfl rfl rfl rfl rfl ⟨rfl,rfl,rfl,rfl,rfl⟩ rfl rfl rfl rfl rfl named Tryz.func3 closed inst wrap
  (fun os started H enc _=>by rw[AtG];exact lifted os started H enc)
def AsV:Rows.requestBackRow.wfByText (OpenSpec.ofChange Rows.requestBackSpec)=true:=by kernel_rfl
def Ats:Tryz.pinned.checked.prog.mainIs=some (true,"efe27963af82abb40326d89823ebca85bc3cda66b429ecc8b4f47de56bcfd07d".toList):=by kernel_rfl
def AnZ {P:Program} (h:P.funcs.toList.any Func.goes=false) (f:FuncId):P.goes f=false:=by
 have h1:P.funcs.any Func.goes=false:=by rw[<- Array.any_toList];exact h
 have h2:((P.closure f).any fun g=>(P.funcs[g]?).any Func.goes)=false:=by
  rw[G7];intro g _ hg;cases e:P.funcs[g]? with
  | none=>rw[e]at hg;cases hg
  | some fn =>
   rw[e]at hg;have hm:fn∈P.funcs.toList:=by rw[Array.mem_toList_iff];exact Ia e
   exact G7.1 h fn hm hg
 unfold Program.goes;rw[h1,h2,Bool.and_false];rfl
def AiM {P:Program} (h:P.funcs.toList.any Func.goes=false) (c:OpenClaim):false=c.goesBy P:=by
 have h1: ∀ f,P.goes f=false:=AnZ h
 have h2:P.goesFrom c.func=false:=by
  unfold Program.goesFrom;cases P.funcNamed c.func with
  | none=>rfl
  | some f=>exact h1 f
 have h3:P.inits.toList.any P.goes=false:=by rw[G7];intro f _ hf;rw[h1 f]at hf;cases hf
 unfold OpenClaim.goesBy Program.goesAt;rw[h2,GV];cases c.start<;>first | rfl | exact h3.symm
def goes:false=Rows.requestBackRow.goesBy Tryz.pinned.checked.prog:=AiM (by kernel_rfl) _
def looks:false=Tryz.pinned.checked.prog.looks []:=by kernel_rfl
def proved:Rows.RequestBackCardSaid :=
 Claim7.holds_tied_plain_at .later [] [.data,.data,.data,.data,.pinned] true (true,"efe27963af82abb40326d89823ebca85bc3cda66b429ecc8b4f47de56bcfd07d") false
  over (by simp) AsV (by simp) requestBack_row_tie rfl ⟨rfl,rfl⟩ Ats rfl
  (fun f fn hf hfn=>by obtain rfl:f=3:=Fp ((show Tryz.prog.funcNamed "certpath/certpathlaw19.RequestBack" =some 3 by kernel_rfl).symm.trans hf) |>.symm;obtain rfl:fn=Tryz.f3:=(Fp (Tryz.func3.symm.trans hfn)).symm;exact⟨looks,fun j t ht=>by rw[Tryz.params3]at ht;have ht:=Ia ht;simp only[List.mem_toArray,Dz,List.mem_nil_iff,FN]at ht;rcases ht with rfl | rfl | rfl;all_goals exact D5 (by kernel_rfl)⟩)
  goes
end Go.Proofs.YtbgjmioccbacdaaGreatDoor.requestBack
