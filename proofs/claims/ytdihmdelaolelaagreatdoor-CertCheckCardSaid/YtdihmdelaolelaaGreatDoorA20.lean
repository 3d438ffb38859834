import Derived.Test.YtdihmdelaolelaaGreatDoorA19
set_option linter.all false
namespace Go.Proofs.YtdihmdelaolelaaGreatDoor.Vm
noncomputable section
variable (N:Nat)
open Go.Proofs Go.Proofs.Tryz
def AlJ:=J8 19 [Sq3,AdL] [Jy,Jw] (A00 (Yq N)) [⟨8,Yr N,dX N⟩,xI N,⟨65,Adw N,Ahf N⟩] f19 N
open Go.Proofs Go.Proofs.Tryz
def AjX:=JJ 5 [] [JM] (fun _=>QE N) [Ad7 N,Agi N,Ad6 N,AlJ N,Aj4 N,⟨8,Yr N,dX N⟩,zQ N,Aj5 N] [] A08 f5 N (aa:=[(16,kY N)]) (bb:=[41,44,45,50,51,57,58,61]) (ss:=[(8,13,51,[52,53,54,55,56])]) (hA:=⟨Aiu N,trivial⟩)
open Go.Proofs Go.Proofs.Tryz
def AaO:A07:=[A05 3 [],A05 18 [20,21,22]]
def AcQ:Lk:=⟨[],[(18,⟨[(20,.c (xo 37888)),(21,.i),(22,.c x64)],[(37888,.arr 37 false Tq6)]⟩,[(0,⟨[],[]⟩)])]⟩
def fK:Sig:=.of [Sq3,Sq4] [JM] (A00 (Qi N))
def vU:bH 3 (fK N):=mM (mJ (ksp [AjY N,AjX N,Agi N,Agc N,⟨8,Yr N,dX N⟩,sJ N,⟨10,LQ N,Yp N⟩,gG N,AcD N,AbI N]) AaO [] [] [] [41,45,46,50,51,57]) AcQ f3 N (NC (Qh _))
end
end Go.Proofs.YtdihmdelaolelaaGreatDoor.Vm
