import Derived.Test.YtdihmdelaolelaaGreatDoorA12
set_option linter.all false
namespace Go.Proofs.YtdihmdelaolelaaGreatDoor.Vm
noncomputable section
open Go.Proofs Go.Proofs.Tryz
def AcS:A07:=[A05 3 [1],A05 18 [1,54,55,56]]
def Ae0:Lk:=⟨[],[(18,⟨[(1,.c AO),(54,.i),(55,.i),(56,.c x64)],[(AzQ,.box Bj)]⟩,[(0,⟨[(1,.c AO)],[(AzQ,.box Bj)]⟩)])]⟩
def Ae1 (N:Nat):=JJ 15 [Sq2] [JM] (TQ N) [ArB N,fM N,AaX N,oM N] AcS Ae0 f15 N (bb:=[9,14,15,20,21,26,27,33,34,40,41,46,47,52])
def Apz:A07:=[A05 3 [],A05 10 [0,1,5]]
def As1:Lk:=⟨[],[(10,⟨[(0,.i),(1,.i),(5,.c x64)],[]⟩,[(0,⟨[],[]⟩)])]⟩
def As2 (N:Nat):=JJ 269 [Jy,.cell false .fn] [JM] (A00 (XH N)) [] Apz As1 f269 N (dd:=[(12,AiH N)]) (hD:=⟨AqV N,trivial⟩)
def yQ:A07:=[A05 3 [],A05 11 [0,13,14,15],A05 18 [0,13,14,15],A05 38 [0,6,13,14,15,25,26,27]]
def Aan:Lk:=⟨[],[(18,⟨[(0,.i),(13,.i),(14,.i),(15,.c x64)],[]⟩,[(0,⟨[],[]⟩)]),(38,⟨[(0,.i),(6,.i),(13,.i),(14,.i),(15,.i),(25,.i),(26,.i),(27,.c x64)],[]⟩,[(2,⟨[(0,.i),(13,.i),(14,.i),(15,.i)],[]⟩)])]⟩
def Aao (N:Nat):=JJ 100 [Sq1,Jw] [Jw] (A00 (QQ N)) [⟨175,Xh N,TR N⟩] yQ Aan f100 N
def jL:A07:=[A05 3 [],A05 11 [0,10,11,12],A05 18 [0,10,11,12],A05 38 [0,4,10,11,12,29,30,31]]
def lH:Lk:=⟨[],[(18,⟨[(0,.i),(10,.i),(11,.i),(12,.c x64)],[]⟩,[(0,⟨[],[]⟩)]),(38,⟨[(0,.i),(4,.c AU),(10,.i),(11,.i),(12,.i),(29,.i),(30,.i),(31,.c x64)],[(AzR,.box [xs,xs])]⟩,[(2,⟨[(0,.i),(10,.i),(11,.i),(12,.i)],[]⟩)])]⟩
def lI (N:Nat):=JJ 101 [Sq8] [Jw] (Qc N) [⟨175,Xh N,TR N⟩] jL lH f101 N
def Ad2 (N:Nat):=JJ 331 [Jy] [JM] (VK N) [⟨378,yM N,AeT N⟩,Am8 N,iF N] [] A08 f331 N (bb:=[13,17,18,21,22,25])
def AoA (N:Nat):=J8 332 [Jy] [JM] (cO N) [iF N] f332 N
def AhH (N:Nat):=J8 333 [Jy] [JM] (VL N) [⟨380,Zk N,pJ N⟩,iF N,⟨381,VX N,Yj N⟩] f333 N
def AdI (N:Nat):Sig:=.of [Jy] [Jw] (SL N)
def tK (N:Nat):bH 220 (AdI N):=mM (mJ (ksp [nM N,⟨295,Acg N,AgP N⟩]) []) A08 f220 N (NC (Qh _))
end
end Go.Proofs.YtdihmdelaolelaaGreatDoor.Vm
