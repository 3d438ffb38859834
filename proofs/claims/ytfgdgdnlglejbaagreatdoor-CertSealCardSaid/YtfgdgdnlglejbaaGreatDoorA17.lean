import Derived.Test.YtfgdgdnlglejbaaGreatDoorA16
set_option linter.all false
namespace Go.Proofs.YtfgdgdnlglejbaaGreatDoor.Vm
noncomputable section
variable (N:Nat)
open Go.Proofs
def sZ:Sig:=.of [Dw] [AcX,Dv] (fun a=>QO N a)
theorem Adb:Dq 24 (sZ N):=Du (Dt [(45,FM N),(82,YW N),(83,RI N),(84,YX N),(49,FK N),(85,FY N)] [] [(44,Nk N)]) ⟨[],[]⟩ Tryz.f24 N (Dp ⟨Fz N,vJ N,UX N,vK N,Fv N,dI N,trivial⟩ ⟨Pz N,trivial⟩)
def yC:Sig:=.of [AcX,AcW] [Dw,Dv] (fun a=>TJ N a.1 a.2)
theorem Ae1:Dq 23 (yC N):=Du (Dt [(25,Y3 N),(81,UN N),(19,gG N)] []) ⟨[],[]⟩ Tryz.f23 N (Dp ⟨tC N,dA N,jU N,trivial⟩)
def uC:Sig:=.of [] [Ea] (fun _=>Jb N)
theorem Ad7:Dq 16 (uC N):=Du (Dt [(22,iW N),(8,qL N),(18,iV N),(23,yC N),(24,sZ N),(25,Y3 N),(28,Ve N),(27,tH N)] [] [(21,aU N)] [] [] [41,44,45,50,51,57,58,61] [(8,13,51,[52,53,54,55,56])]) ⟨[],[]⟩ Tryz.f16 N (Dp ⟨mF N,uD N,mD N,Ae1 N,Adb N,tC N,jM N,Ade N,trivial⟩ ⟨AhD N,trivial⟩)
def AbS:List (Nat×Nrm):=[(3,⟨[],[],[],[],[]⟩),(22,⟨[1,36,37,38],[],[],[],[]⟩)]
def Ad5:Lk:=⟨[],[(22,⟨[(1,.i),(36,.c (xo 41984)),(37,.i),(38,.c x64)],[(41984,.arr 9 false Aq)]⟩,[(0,⟨[],[]⟩)])]⟩
def Ad6:Sig:=.of [Dw,Dw,AjM] [Ea] (fun a=>JR N a.1 a.2.1 a.2.2)
theorem wU:Dq 4 (Ad6 N):=Du (Dt [(16,uC N),(8,qL N),(18,iV N),(17,Tt N),(19,gG N),(20,AaP N)] AbS) Ad5 Tryz.f4 N (Dp ⟨Ad7 N,uD N,mD N,aO N,jU N,AfU N,trivial⟩)
end
