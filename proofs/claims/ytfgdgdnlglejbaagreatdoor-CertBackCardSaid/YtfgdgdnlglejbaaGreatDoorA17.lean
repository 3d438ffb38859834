import Derived.Test.YtfgdgdnlglejbaaGreatDoorA16
set_option linter.all false
namespace Go.Proofs.YtfgdgdnlglejbaaGreatDoor.Vm
noncomputable section
variable (N:Nat)
open Go.Proofs
def WU:Sig:=.of [Abq,Abq] [Ee] (fun a=>G5 N a.1 a.2)
theorem kN:Dq 26 (WU N):=Dw (Dv [(89,O6 N),(90,ZC N)] [] [] [] [] [10,16,17,23,24,30,31,37,38,44,45,51]) ⟨[],[]⟩ Tryz.f26 N (Dp ⟨OZ N,sW N,trivial⟩)
def Xe:Sig:=.of [D5] [Abq,Dx] (fun a=>JI N a)
theorem Y7:Dq 24 (Xe N):=Dw (Dv [(45,FO N),(82,YA N),(83,RZ N),(84,YB N),(49,FM N),(85,Gl N)] [] [(44,Oi N)]) ⟨[],[]⟩ Tryz.f24 N (Dp ⟨Fz N,qW N,UR N,qX N,Fv N,aP N,trivial⟩ ⟨PV N,trivial⟩)
def Y8:Sig:=.of [Abq,Abp] [D5,Dx] (fun a=>KU N a.1 a.2)
theorem aQ:Dq 23 (Y8 N):=Dw (Dv [(25,TM N),(81,UH N),(19,AaA N)] []) ⟨[],[]⟩ Tryz.f23 N (Dp ⟨Xf N,aF N,AeB N,trivial⟩)
def qC:Sig:=.of [] [Ee] (fun _=>JK N)
theorem AbS:Dq 16 (qC N):=Dw (Dv [(22,VR N),(8,nX N),(18,fD N),(23,Y8 N),(24,Xe N),(25,TM N),(28,Pg N),(27,Xg N)] [] [(21,UF N)] [] [] [41,44,45,50,51,57,58,61] [(8,13,51,[52,53,54,55,56])]) ⟨[],[]⟩ Tryz.f16 N (Dp ⟨V6 N,qE N,jU N,aQ N,Y7 N,Xf N,RF N,Y9 N,trivial⟩ ⟨kT N,trivial⟩)
def AbR:Sig:=.of [.cell false (.int .u8),Alr] [Ee] (fun a=>JB N a.1 a.2)
theorem sO:Dq 5 (AbR N):=Dw (Dv [(8,nX N),(18,fD N),(22,VR N),(23,Y8 N),(24,Xe N),(25,TM N),(16,qC N),(26,WU N),(28,Pg N),(27,Xg N)] [] [(21,UF N)] [] [] [49,52,53,56,57,60,61,65,66,71,72,77,78,84] [(9,31,78,[79,80,81,82,83])]) ⟨[],[]⟩ Tryz.f5 N (Dp ⟨qE N,jU N,V6 N,aQ N,Y7 N,Xf N,AbS N,kN N,RF N,Y9 N,trivial⟩ ⟨kT N,trivial⟩)
end
