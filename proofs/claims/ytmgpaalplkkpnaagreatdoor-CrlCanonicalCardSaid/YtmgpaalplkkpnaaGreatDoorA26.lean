import Derived.Test.YtmgpaalplkkpnaaGreatDoorA25
set_option linter.all false
namespace Go.Proofs.YtmgpaalplkkpnaaGreatDoor.crlCanonical
open Go.ChangeShapes Go.WideShapes Go.ChangeAt Go.RowKit
open Go.Proofs.YtmgpaalplkkpnaaGreatDoor.Vm
def named:Tryz.pinned.checked.prog.funcNamed Rows.crlCanonicalRow.func=some 3:=by kernel_rfl
def inst:Tryz.f3.isInstance Tryz.pinned.checked.prog Rows.crlCanonicalRow.origin Rows.crlCanonicalRow.targs:=D6 (by kernel_rfl)
def wrap:Tryz.f3.isWrapper Tryz.pinned.checked.prog Rows.crlCanonicalRow.wrapper Rows.crlCanonicalRow.mainSum:=by unfold Func.isWrapper;first | (rw [Dn (by decide +kernel)];kernel_rfl) | (rw [Dk (by decide +kernel)];exact⟨rfl,rfl⟩)
def A3s {H:Type} (enc:TypeId×Value->H):Rows.crlCanonicalRow.pre enc Tryz.pinned.checked.prog Tryz.f3 (OpenSpec.ofChange Rows.crlCanonicalSpec)=(fun w args=>(Rows.crlCanonicalSpec.pre enc Tryz.prog Tryz.f3 Rows.crlCanonicalRow.domain false w args/\laidMetH Tryz.prog tabs w)/\sizedMet enc Tryz.prog Tryz.f3 (OpenSpec.ofChange Rows.crlCanonicalSpec) false w args):=rfl
def over:Rows.crlCanonicalRow.holds Tryz.pinned (OpenSpec.ofChange Rows.crlCanonicalSpec) :=
 OpenClaim.holds_of_wide 3 Tryz.f3 rfl rfl rfl rfl rfl rfl rfl ⟨rfl,rfl,rfl,rfl,rfl⟩ rfl rfl rfl rfl rfl named Tryz.func3 closed inst wrap
  (fun os started H enc _=>by rw[A3s];exact lifted os started H enc)
def A2I:Rows.crlCanonicalRow.wfByText (OpenSpec.ofChange Rows.crlCanonicalSpec)=true:=by kernel_rfl
def A3i:Tryz.pinned.checked.prog.mainIs=some (true,"b47363bcfeb9f3ea638c2cb032aea0c43f5006bfa9b5972632dd61c266c1c053".toList):=by kernel_rfl
def Ax0 {P:Program} (h:P.funcs.toList.any Func.goes=false) (f:FuncId):P.goes f=false:=by
 have h1:P.funcs.any Func.goes=false:=by rw[<- Array.any_toList];exact h
 have h2:((P.closure f).any fun g=>(P.funcs[g]?).any Func.goes)=false:=by
  rw[Il];intro g _ hg;cases e:P.funcs[g]? with
  | none=>rw[e]at hg;cases hg
  | some fn =>
   rw[e]at hg;have hm:fn∈P.funcs.toList:=by rw[Array.mem_toList_iff];exact IG e
   exact Il.1 h fn hm hg
 unfold Program.goes;rw[h1,h2,Ha];rfl
def ArD {P:Program} (h:P.funcs.toList.any Func.goes=false) (c:OpenClaim):false=c.goesBy P:=by
 have h1: ∀ f,P.goes f=false:=Ax0 h
 have h2:P.goesFrom c.func=false:=by
  unfold Program.goesFrom;cases P.funcNamed c.func with
  | none=>rfl
  | some f=>exact h1 f
 have h3:P.inits.toList.any P.goes=false:=by rw[Il];intro f _ hf;rw[h1 f]at hf;cases hf
 unfold OpenClaim.goesBy Program.goesAt;rw[h2,F7];cases c.start<;>first | rfl | exact h3.symm
def goes:false=Rows.crlCanonicalRow.goesBy Tryz.pinned.checked.prog:=ArD (by kernel_rfl) _
def looks:false=Tryz.pinned.checked.prog.looks []:=by kernel_rfl
def proved:Rows.CrlCanonicalCardSaid :=
 Claim7.holds_tied_plain_at .later [] [.data,.data,.data,.data,.data,.pinned] true (true,"b47363bcfeb9f3ea638c2cb032aea0c43f5006bfa9b5972632dd61c266c1c053") false
  over (by simp) A2I (by simp) crlCanonical_row_tie rfl ⟨rfl,rfl⟩ A3i rfl
  (fun f fn hf hfn=>by obtain rfl:f=3:=Ei ((show Tryz.prog.funcNamed "certpath/certpathlaw18.CrlCanonical" =some 3 by kernel_rfl).symm.trans hf) |>.symm;obtain rfl:fn=Tryz.f3:=(Ei (Tryz.func3.symm.trans hfn)).symm;exact⟨looks,fun j t ht=>by rw[Tryz.params3]at ht;have ht:=IG ht;simp only[List.mem_toArray,D7,List.mem_nil_iff,GK]at ht;rcases ht with rfl | rfl;all_goals exact D6 (by kernel_rfl)⟩)
  goes
end Go.Proofs.YtmgpaalplkkpnaaGreatDoor.crlCanonical
