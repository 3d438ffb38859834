import Derived.Test.YtakmjgnpefmjhaaGreatDoorA23
set_option linter.all false
namespace Go.Proofs.YtakmjgnpefmjhaaGreatDoor.certextDecode
open Go.ChangeShapes Go.WideShapes Go.ChangeAt Go.RowKit
open Go.Proofs.YtakmjgnpefmjhaaGreatDoor.Vm
def named:Tryz.pinned.checked.prog.funcNamed Rows.certextDecodeRow.func=some 3:=by kernel_rfl
def inst:Tryz.f3.isInstance Tryz.pinned.checked.prog Rows.certextDecodeRow.origin Rows.certextDecodeRow.targs:=DN (by kernel_rfl)
def wrap:Tryz.f3.isWrapper Tryz.pinned.checked.prog Rows.certextDecodeRow.wrapper Rows.certextDecodeRow.mainSum:=by unfold Func.isWrapper;first | (rw [Dq (by decide +kernel)];kernel_rfl) | (rw [Dt (by decide +kernel)];exact⟨rfl,rfl⟩)
def A0r {H:Type} (enc:TypeId×Value->H):Rows.certextDecodeRow.pre enc Tryz.pinned.checked.prog Tryz.f3 (OpenSpec.ofChange Rows.certextDecodeSpec)=(fun w args=>(Rows.certextDecodeSpec.pre enc Tryz.prog Tryz.f3 Rows.certextDecodeRow.domain false w args/\laidMetH Tryz.prog tabs w)/\sizedMet enc Tryz.prog Tryz.f3 (OpenSpec.ofChange Rows.certextDecodeSpec) false w args):=rfl
def over:Rows.certextDecodeRow.holds Tryz.pinned (OpenSpec.ofChange Rows.certextDecodeSpec) :=
 OpenClaim.holds_of_wide 3 Tryz.f3 rfl rfl rfl rfl rfl rfl rfl ⟨rfl,rfl,rfl,rfl,rfl⟩ rfl rfl rfl rfl rfl named Tryz.func3 closed inst wrap
  (fun os started H enc _=>by rw[A0r];exact lifted os started H enc)
def AzT:Rows.certextDecodeRow.wfByText (OpenSpec.ofChange Rows.certextDecodeSpec)=true:=by kernel_rfl
def A0j:Tryz.pinned.checked.prog.mainIs=some (true,"66ac5d787ede922c1280e8387f69ab9c0769d1b6f4d735612e7b3b44304b13c1".toList):=by kernel_rfl
def AvM {P:Program} (h:P.funcs.toList.any Func.goes=false) (f:FuncId):P.goes f=false:=by
 have h1:P.funcs.any Func.goes=false:=by rw[<- Array.any_toList];exact h
 have h2:((P.closure f).any fun g=>(P.funcs[g]?).any Func.goes)=false:=by
  rw[F9];intro g _ hg;cases e:P.funcs[g]? with
  | none=>rw[e]at hg;cases hg
  | some fn =>
   rw[e]at hg;have hm:fn∈P.funcs.toList:=by rw[Array.mem_toList_iff];exact I5 e
   exact F9.1 h fn hm hg
 unfold Program.goes;rw[h1,h2,Hq];rfl
def AqZ {P:Program} (h:P.funcs.toList.any Func.goes=false) (c:OpenClaim):false=c.goesBy P:=by
 have h1: ∀ f,P.goes f=false:=AvM h
 have h2:P.goesFrom c.func=false:=by
  unfold Program.goesFrom;cases P.funcNamed c.func with
  | none=>rfl
  | some f=>exact h1 f
 have h3:P.inits.toList.any P.goes=false:=by rw[F9];intro f _ hf;rw[h1 f]at hf;cases hf
 unfold OpenClaim.goesBy Program.goesAt;rw[h2,EI];cases c.start<;>first | rfl | exact h3.symm
def goes:false=Rows.certextDecodeRow.goesBy Tryz.pinned.checked.prog:=AqZ (by kernel_rfl) _
def looks:false=Tryz.pinned.checked.prog.looks []:=by kernel_rfl
def proved:Rows.CertextDecodeCardSaid :=
 Claim7.holds_tied_plain_at .later [] [.data,.data,.data,.data,.pinned] true (true,"66ac5d787ede922c1280e8387f69ab9c0769d1b6f4d735612e7b3b44304b13c1") false
  over (by simp) AzT (by simp) certextDecode_row_tie rfl ⟨rfl,rfl⟩ A0j rfl
  (fun f fn hf hfn=>by obtain rfl:f=3:=Gw ((show Tryz.prog.funcNamed "certpath/certpathlaw16.CertextDecode" =some 3 by kernel_rfl).symm.trans hf) |>.symm;obtain rfl:fn=Tryz.f3:=(Gw (Tryz.func3.symm.trans hfn)).symm;exact⟨looks,fun j t ht=>by rw[Tryz.params3]at ht;have ht:=I5 ht;simp only[List.mem_toArray,D8,List.mem_nil_iff,or_false]at ht;rcases ht with rfl | rfl | rfl | rfl;all_goals exact DN (by kernel_rfl)⟩)
  goes
end Go.Proofs.YtakmjgnpefmjhaaGreatDoor.certextDecode
