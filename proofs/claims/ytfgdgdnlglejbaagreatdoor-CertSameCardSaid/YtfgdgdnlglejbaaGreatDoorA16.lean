import Derived.Test.YtfgdgdnlglejbaaGreatDoorA15
set_option linter.all false
namespace Go.Proofs.YtfgdgdnlglejbaaGreatDoor.Vm
noncomputable section
variable (N:Nat)
open Go.Proofs
def jK:Sig:=.of [AbA,AbA] [JS] (fun a=>Qj N a.1 a.2)
def Abv (N:Nat):Jw 26 (jK N):=J3 (Jz [(89,Vd N),(90,uA N)] [] [] [] [] [10,16,17,23,24,30,31,37,38,44,45,51]) ⟨[],[]⟩ Tryz.f26 N (Jv ⟨VI N,Aew N,trivial⟩)
open Go.Proofs
def jV:Sig:=.of [J7] [AbA,J4] (fun a=>Oh N a)
def pO (N:Nat):Jw 24 (jV N):=J3 (Jz [(45,MK N),(82,pR N),(83,Y7 N),(84,pU N),(49,MI N),(85,MZ N)] [] [(44,UH N)]) ⟨[],[]⟩ Tryz.f24 N (Jv ⟨LV N,AdH N,bK N,AdI N,LU N,vZ N,trivial⟩ ⟨WA N,trivial⟩)
open Go.Proofs
def AeK:Sig:=.of [AbA,AiA] [J7,J4] (fun a=>Z4 N a.1 a.2)
def Akf (N:Nat):Jw 23 (AeK N):=J3 (Jz [(25,nU N),(81,bC N),(19,yE N)] []) ⟨[],[]⟩ Tryz.f23 N (Jv ⟨Adl N,vP N,Aam N,trivial⟩)
open Go.Proofs
def Adt:Sig:=.of [] [JS] (fun _=>Rk N)
def Ajm (N:Nat):Jw 16 (Adt N):=J3 (Jz [(22,zI N),(8,Acz N),(18,zH N),(23,AeK N),(24,jV N),(25,nU N),(28,bW N),(27,Adm N)] [] [(21,uD N)] [] [] [41,44,45,50,51,57,58,61] [(8,13,51,[52,53,54,55,56])]) ⟨[],[]⟩ Tryz.f16 N (Jv ⟨AaW N,Adu N,AaV N,Akf N,pO N,Adl N,Aaa N,AiH N,trivial⟩ ⟨Anx N,trivial⟩)
open Go.Proofs
def Ajl:Sig:=.of [ApE,J7] [JS] (fun a=>OJ N a.1 a.2)
def Aej (N:Nat):Jw 6 (Ajl N):=J3 (Jz [(16,Adt N),(8,Acz N),(18,zH N),(17,Zo N),(19,yE N),(24,jV N),(26,jK N)] [] [] [] [] [50,53,54,57,58,61,62,65,66,70,71,77,78,82,83,88]) ⟨[],[]⟩ Tryz.f6 N (Jv ⟨Ajm N,Adu N,AaV N,tX N,Aam N,pO N,Abv N,trivial⟩)
end
end Go.Proofs.YtfgdgdnlglejbaaGreatDoor.Vm
