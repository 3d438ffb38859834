import Derived.Test.YtdihmdelaolelaaGreatDoorA31
set_option linter.all false
namespace Go.Proofs.YtdihmdelaolelaaGreatDoor.certCheck
open Go.ChangeShapes Go.WideShapes Go.ChangeAt Go.RowKit
open Go.Proofs.YtdihmdelaolelaaGreatDoor.Vm
def named:Tryz.pinned.checked.prog.funcNamed Rows.certCheckRow.func=some 3:=by kernel_rfl
def inst:Tryz.f3.isInstance Tryz.pinned.checked.prog Rows.certCheckRow.origin Rows.certCheckRow.targs:=DC (by kernel_rfl)
def wrap:Tryz.f3.isWrapper Tryz.pinned.checked.prog Rows.certCheckRow.wrapper Rows.certCheckRow.mainSum:=by unfold Func.isWrapper;first | (rw [Du (by decide +kernel)];kernel_rfl) | (rw [Dp (by decide +kernel)];exact⟨rfl,rfl⟩)
def AyJ {H:Type} (enc:TypeId×Value->H):Rows.certCheckRow.pre enc Tryz.pinned.checked.prog Tryz.f3 (OpenSpec.ofChange Rows.certCheckSpec)=(fun w args=>(Rows.certCheckSpec.pre enc Tryz.prog Tryz.f3 Rows.certCheckRow.domain false w args/\laidMetH Tryz.prog tabs w)/\sizedMet enc Tryz.prog Tryz.f3 (OpenSpec.ofChange Rows.certCheckSpec) false w args):=rfl
def over:Rows.certCheckRow.holds Tryz.pinned (OpenSpec.ofChange Rows.certCheckSpec) :=
 OpenClaim.holds_of_wide 3 Tryz.f3 rfl rfl rfl rfl rfl rfl rfl ⟨rfl,rfl,rfl,rfl,rfl⟩ rfl rfl rfl rfl rfl named Tryz.func3 closed inst wrap
  (fun os started H enc _=>by rw[AyJ];exact lifted os started H enc)
def Ayt:Rows.certCheckRow.wfByText (OpenSpec.ofChange Rows.certCheckSpec)=true:=by kernel_rfl
def Ay9:Tryz.pinned.checked.prog.mainIs=some (true,"269e15972e967416a7bc51d1aab4b47f1157c675b5c55d6ada8afbec874597fa".toList):=by kernel_rfl
def Auj {P:Program} (h:P.funcs.toList.any Func.goes=false) (f:FuncId):P.goes f=false:=by
 have h1:P.funcs.any Func.goes=false:=by rw[<- Array.any_toList];exact h
 have h2:((P.closure f).any fun g=>(P.funcs[g]?).any Func.goes)=false:=by
  rw[Fj];intro g _ hg;cases e:P.funcs[g]? with
  | none=>rw[e]at hg;cases hg
  | some fn =>
   rw[e]at hg;have hm:fn∈P.funcs.toList:=by rw[Array.mem_toList_iff];exact IB e
   exact Fj.1 h fn hm hg
 unfold Program.goes;rw[h1,h2,GU];rfl
def Ao6 {P:Program} (h:P.funcs.toList.any Func.goes=false) (c:OpenClaim):false=c.goesBy P:=by
 have h1: ∀ f,P.goes f=false:=Auj h
 have h2:P.goesFrom c.func=false:=by
  unfold Program.goesFrom;cases P.funcNamed c.func with
  | none=>rfl
  | some f=>exact h1 f
 have h3:P.inits.toList.any P.goes=false:=by rw[Fj];intro f _ hf;rw[h1 f]at hf;cases hf
 unfold OpenClaim.goesBy Program.goesAt;rw[h2,EK];cases c.start<;>first | rfl | exact h3.symm
def goes:false=Rows.certCheckRow.goesBy Tryz.pinned.checked.prog:=Ao6 (by kernel_rfl) _
def looks:false=Tryz.pinned.checked.prog.looks []:=by kernel_rfl
def proved:Rows.CertCheckCardSaid :=
 Claim7.holds_tied_plain_at .later [] [.data,.data,.data,.data,.data,.pinned] true (true,"269e15972e967416a7bc51d1aab4b47f1157c675b5c55d6ada8afbec874597fa") false
  over (by simp) Ayt (by simp) certCheck_row_tie rfl ⟨rfl,rfl⟩ Ay9 rfl
  (fun f fn hf hfn=>by obtain rfl:f=3:=FT ((show Tryz.prog.funcNamed "certpath/certpathlaw17.CertCheck" =some 3 by kernel_rfl).symm.trans hf) |>.symm;obtain rfl:fn=Tryz.f3:=(FT (Tryz.func3.symm.trans hfn)).symm;exact⟨looks,fun j t ht=>by rw[Tryz.params3]at ht;have ht:=IB ht;simp only[List.mem_toArray,D8,List.mem_nil_iff,Ho]at ht;rcases ht with rfl | rfl;all_goals exact DC (by kernel_rfl)⟩)
  goes
end Go.Proofs.YtdihmdelaolelaaGreatDoor.certCheck
