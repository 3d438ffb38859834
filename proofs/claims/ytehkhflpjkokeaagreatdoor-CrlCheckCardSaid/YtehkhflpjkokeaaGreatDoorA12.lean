import Derived.Test.YtehkhflpjkokeaaGreatDoorA10
import Derived.Test.YtehkhflpjkokeaaGreatDoorA11
set_option linter.all false
namespace Go.Proofs.YtehkhflpjkokeaaGreatDoor.Vm
noncomputable section
variable (N:Nat)
open Go.Proofs Go.Proofs.Tryz
def ApR:=JH 315 [Jw,Jt] [JM] (fun a=>rU N a.1 a.2) [] f315 N
def Agy:=JF 131 [RG] [Jt] (X6 N) [] [] AyK f131 N (bb:=[6,10,11,16,17,22])
def Agz:AyJ:=[AyH 3 [4],AyH 22 [4,12,13,14]]
def Ait:Lk:=⟨[],[(22,⟨[(4,.c x64),(12,.c (xo 35840)),(13,.i),(14,.c x64)],[(35840,.arr 5 false Ar)]⟩,[(0,⟨[(4,.c x64)],[]⟩)])]⟩
def Aiu:=JF 132 [Jw] [Jt,JM] (YF N) [] Agz Ait f132 N
def NH:=JH 25 [oU,Jt] [Jt] (fun a=>JB N a.1 a.2) [] f25 N
def AgE:AyJ:=[AyH 3 [3],AyH 14 [3,8,9]]
def AiB:Lk:=⟨[],[(14,⟨[(3,.c (xo AxV)),(8,.i),(9,.c x64)],[(AxV,.arr 5 false Ar)]⟩,[(0,⟨[(3,.c (xo AxV))],[(AxV,.arr 5 false Ar)]⟩)])]⟩
def AiC:=JF 341 [Jw] [Jw] (YJ N) [] AgE AiB f341 N
def Ap4:=JH 7 [AjD] [oU] (AcM N) [] f7 N
def AiI:AyJ:=[(3,⟨[4],[([4],3,Aw,AxR)],[],[(AxN,AxR)],[]⟩),(11,⟨[0,4,6,8],[([4],3,Aw,AxP)],[],[(AxO,AxP)],[]⟩),(18,⟨[0,4,5,6],[([4],3,Aw,AxN)],[],[(53760,AxN)],[]⟩),(58,⟨[0,4,6,7,8,9],[([4],3,Aw,AxO)],[],[(AxN,AxO)],[]⟩)]
def Al9:Lk:=⟨[],[(18,⟨[(0,.i),(4,.c (xo AxN)),(5,.c x64),(6,.c x64)],[(AxN,.arr 3 false Aw)]⟩,[(0,⟨[(4,.c (xo AxR))],[(AxR,.arr 3 false Aw)]⟩)]),(58,⟨[(0,.i),(4,.c (xo AxO)),(6,.i),(7,.i),(8,.c x64),(9,.c x64)],[(AxO,.arr 3 false Aw)]⟩,[(2,⟨[(0,.i),(4,.c (xo AxP)),(6,.i),(8,.c x64)],[(AxP,.arr 3 false Aw)]⟩)])]⟩
def Aaq:=JF 207 [Jw] [AjD,JM] (V5 N) [] AiI Al9 f207 N (bb:=[43,47,48,52,56,57,58,62,88,93,94,99,104,105])
def AiN:AyJ:=[AyH 3 [],AyH 10 [0,3],AyH 15 [0,3,5,6,7],AyH 65 [0,3,4,5,6],AyH 82 [0,3,5,6,7,8]]
def AlC:Lk:=⟨[(65,⟨[(0,.i),(3,.c x64),(4,.i),(5,.c x64),(6,.c x64)],[]⟩)],[(10,⟨[(0,.i),(3,.c x64)],[]⟩,[(0,⟨[],[]⟩)]),(82,⟨[(0,.i),(3,.i),(5,.i),(6,.i),(7,.c x64),(8,.c x64)],[]⟩,[(3,⟨[(0,.i),(3,.i),(5,.i),(6,.i),(7,.c x64)],[]⟩)])]⟩
def AlD:=JF 220 [Jw] [JM] (XJ N) [] AiN AlC f220 N (bb:=[87,90,91,94,97,98])
open Go.Proofs Go.Proofs.Tryz
def Ab1:AyJ:=[AyH 3 [],AyH 11 [12,13,14],AyH 18 [12,13,14],AyH 38 [12,13,14,21,22,23]]
def AcP:Lk:=⟨[],[(18,⟨[(12,.i),(13,.i),(14,.c x64)],[]⟩,[(0,⟨[],[]⟩)]),(38,⟨[(12,.i),(13,.i),(14,.i),(21,.i),(22,.i),(23,.c x64)],[]⟩,[(2,⟨[(12,.i),(13,.i),(14,.i)],[]⟩)])]⟩
def WA:=JF 12 [Sq0] [JM] (MZ N) [] Ab1 AcP f12 N
def AkE:=JH 272 [] [Sq2] (fun _=>Aep N) [] f272 N
def nG:=JH 312 [] [Sq3] (fun _=>Xv N) [] f312 N
def AmI:=JH 330 [.cell false (.int .u32),.cell false (.int .u64)] [.cell false (.int .u32)] (fun a=>OU N a.1 a.2) [] f330 N
def Aif:=JH 331 [] [Sq4] (fun _=>AbV N) [] f331 N
def Uk:=JH 136 [Sq7] [JM] (Nj N) [] f136 N
def AgJ:AyJ:=[AyH 3 [0,5,6],AyH 11 [0,5,6],AyH 18 [0,1,5,6,7],AyH 19 [0,13,14,15,16,17,18,19,20],AyH 34 [0,5,6,8],AyH 66 [0,5,6,13,14,15,16,17,18,19,20,21]]
def AiK:Lk:=⟨[],[(18,⟨[(0,.i),(1,.i),(5,.c (xo Ayi)),(6,.c (.c (.Kq AxV 0 0))),(7,.c x64)],[(AxV,.arr 204 false Az),(Ayi,.arr 156 false Az)]⟩,[(0,⟨[(0,.i),(5,.c (xo Ayi)),(6,.c (.c (.Kq AxV 0 0)))],[(AxV,.arr 204 false Az),(Ayi,.arr 156 false Az)]⟩)]),(34,⟨[(0,.i),(5,.c (xo Ayi)),(6,.c (.c (.Kq AxV 0 0))),(8,.c x64)],[(AxV,.arr 204 false Az),(Ayi,.arr 156 false Az)]⟩,[(2,⟨[(0,.i),(5,.c (xo Ayi)),(6,.c (.c (.Kq AxV 0 0)))],[(AxV,.arr 204 false Az),(Ayi,.arr 156 false Az)]⟩)]),(66,⟨[(0,.i),(5,.c (xo Ayi)),(6,.c (.c (.Kq AxV 0 0))),(13,.c Ba),(14,.c Ba),(15,.c Ba),(16,.c Ba),(17,.c Ba),(18,.c Ba),(19,.c Ba),(20,.c Ba),(21,.c x64)],[(AxV,.arr 204 false Az),(Ayi,.arr 156 false Az)]⟩,[(4,⟨[(0,.i),(13,.c Ba),(14,.c Ba),(15,.c Ba),(16,.c Ba),(17,.c Ba),(18,.c Ba),(19,.c Ba),(20,.c Ba)],[]⟩)])]⟩
def AiL:=JF 116 [Sq9,Jw] [Sq9] (fun a=>Acj N a.1 a.2) [] AgJ AiK f116 N
def ApV:=JH 58 [Jt] [Jw] (AlH N) [] f58 N
open Go.Proofs Go.Proofs.Tryz
def fV (N n:Nat):Sig:=.of [.cell false (.int .i64)] [.cell false .str] (fun a=>Tf N n a)
def jP (N:Nat): ∀ n,Spec Tryz.prog 59 (fV N n)
 | 0=>AaB (C:=ctx Tryz.prog [] []) (fn:=f59) (NQ (gs:=[]) trivial)
 | n+1=>Ug (C:=ctx Tryz.prog ((59,fV N n)::(ksp [])) []) (L:=⟨[],[]⟩) (fn:=f59) (N:=N) (NQ ⟨jP N n,(Q4 _)⟩)
def kW:Sig:=fV N N
def nZ (N:Nat):Spec Tryz.prog 59 (kW N):=jP N N
def ApF:AyJ:=[AyH 3 [3],AyH 22 [0,3,4]]
def ArV:Lk:=⟨[],[(22,⟨[(0,.i),(3,.c x64),(4,.c x64)],[]⟩,[(0,⟨[(3,.c x64)],[]⟩)])]⟩
def ArW:=JF 194 [Jw] [Jt] (cZ N) [] ApF ArV f194 N (bb:=[7,11,12,16,20,21])
def ApI:=JH 195 [Jt,Jt] [JM] (fun a=>rG N a.1 a.2) [] f195 N
def Ajd:=JF 211 [.cell false (.int .u8)] [JM] (Ack N) [] [] AyK f211 N (bb:=[5,8,9,12,15,16,17,20,23,24])
def AgW:=JH 213 [.cell false (.int .u8)] [JM] (SS N) [] f213 N
def AdN:=JH 48 [Jt,Jt,Jt] [JM] (fun a=>OE N a.1 a.2.1 a.2.2) [] f48 N
def Apd:=JH 162 [Jt] [Jt] (AcC N) [] f162 N
def uN:=JF 309 [.cell false (.int .u8)] [JM] (RP N) [] [] AyK f309 N (bb:=[5,8,9,12,15,16])
open Go.Proofs Go.Proofs.Tryz
def yT:=JH 310 [.cell false (.int .u8)] [JM] (QU N) [] f310 N
def Aii:=JH 267 [Jw] [Jw,Jw] (YC N) [] f267 N
def Apk:=JH 268 [Jw,Jt] [JM] (fun a=>Ym N a.1 a.2) [] f268 N
def Agr:=JH 219 [Jw] [JM] (UJ N) [] f219 N
def Ama:AyJ:=[(3,⟨[3],[([3],5,Ar,AxR)],[],[(AxN,AxR)],[]⟩),(18,⟨[3,4,8,9,10],[([3],5,Ar,AxN)],[],[(41472,AxN)],[]⟩),(45,⟨[3,4,6,8,9,10],[([3],5,Ar,AxO)],[],[(38400,AxO),(AxN,AxO)],[]⟩),(53,⟨[3,4,6,8,9,10],[([3],5,Ar,AxP)],[],[(AxO,AxP)],[]⟩)]
def An6:Lk:=⟨[(45,⟨[(3,.c (xo AxO)),(4,.c xb),(6,.i),(8,.c (xo Ayb)),(9,.i),(10,.i)],[(Ayb,.arr 5 false Ar),(AxO,.arr 5 false Ar)]⟩),(53,⟨[(3,.c (xo AxP)),(4,.i),(6,.c x8),(8,.c (xo Ayb)),(9,.i),(10,.i)],[(Ayb,.arr 5 false Ar),(AxP,.arr 5 false Ar)]⟩)],[(18,⟨[(3,.c (xo AxN)),(4,.c xb),(8,.c (xo Ayb)),(9,.i),(10,.c x64)],[(Ayb,.arr 5 false Ar),(AxN,.arr 5 false Ar)]⟩,[(0,⟨[(3,.c (xo AxR))],[(AxR,.arr 5 false Ar)]⟩)])]⟩
def An7:=JF 317 [Jw] [Jw] (Zz N) [] Ama An6 f317 N
def Ahm:=JH 23 [Jt] [Jt] (Uc N) [] f23 N
def AfI:=JH 109 [Sq1] [JM] (Xm N) [] f109 N
def Nb:=JH 32 [.box [(false,.bool)],Jw,Jt] [Jw] (fun a=>JV N a.1 a.2.1 a.2.2) [] f32 N
open Go.Proofs Go.Proofs.Tryz
def zK:AyJ:=[AyH 3 [],AyH 18 [8,9,10]]
def Ab2:Lk:=⟨[],[(18,⟨[(8,.i),(9,.i),(10,.c x64)],[]⟩,[(0,⟨[],[]⟩)])]⟩
def ZX:=JF 13 [.cell false (.sl 98 Tq1)] [JM] (Px N) [WA N] zK Ab2 f13 N
def vM:AyJ:=[AyH 3 [2,4,5],AyH 11 [2,4,5],AyH 14 [1,2,4,5,6],AyH 19 [2,4,11],AyH 27 [4,11],AyH 30 [2,4,5,7],AyH 62 [2,4,5,10,11,12],AyH 98 [2,4,11,204]]
def yR:Lk:=⟨[],[(14,⟨[(1,.i),(2,.c (.c (.Kq AxQ 0 0))),(4,.c (.c (.Kq AxT 0 0))),(5,.c (.c (.Kq AxU 0 0))),(6,.c x64)],[(AxQ,.arr 312 false Az),(AxT,.arr 312 false Az),(AxU,.arr 204 false Az)]⟩,[(0,⟨[(2,.c (.c (.Kq AxQ 0 0))),(4,.c (.c (.Kq AxT 0 0))),(5,.c (.c (.Kq AxU 0 0)))],[(AxQ,.arr 312 false Az),(AxT,.arr 312 false Az),(AxU,.arr 204 false Az)]⟩)]),(30,⟨[(2,.c (.c (.Kq AxQ 0 0))),(4,.c (.c (.Kq AxT 0 0))),(5,.c (.c (.Kq AxU 0 0))),(7,.c x64)],[(AxQ,.arr 312 false Az),(AxT,.arr 312 false Az),(AxU,.arr 204 false Az)]⟩,[(2,⟨[(2,.c (.c (.Kq AxQ 0 0))),(4,.c (.c (.Kq AxT 0 0))),(5,.c (.c (.Kq AxU 0 0)))],[(AxQ,.arr 312 false Az),(AxT,.arr 312 false Az),(AxU,.arr 204 false Az)]⟩)]),(62,⟨[(2,.c (.c (.Kq AxQ 0 0))),(4,.c (.c (.Kq AxT 0 0))),(5,.c (.c (.Kq AxU 0 0))),(10,.c (.c (.Kq 35328 0 0))),(11,.c (.c (.Kq Ayn 0 0))),(12,.c x64)],[(AxQ,.arr 312 false Az),(AxT,.arr 312 false Az),(AxU,.arr 204 false Az),(35328,.arr 204 false Az),(Ayn,.arr 312 false Az)]⟩,[(4,⟨[(2,.c (.c (.Kq AxQ 0 0))),(4,.c (.c (.Kq AxT 0 0))),(11,.c (.c (.Kq Ayn 0 0)))],[(AxQ,.arr 312 false Az),(AxT,.arr 312 false Az),(Ayn,.arr 312 false Az)]⟩)]),(98,⟨[(2,.c (.c (.Kq AxQ 0 0))),(4,.c (.c (.Kq AxT 0 0))),(11,.c (.c (.Kq Ayn 0 0))),(204,.c x64)],[(AxQ,.arr 312 false Az),(AxT,.arr 312 false Az),(Ayn,.arr 312 false Az)]⟩,[(6,⟨[(4,.c (.c (.Kq AxT 0 0))),(11,.c (.c (.Kq Ayn 0 0)))],[(AxT,.arr 312 false Az),(Ayn,.arr 312 false Az)]⟩)])]⟩
def Zh:=JF 313 [Sq3,Sq5] [Sq3] (fun a=>Qj N a.1 a.2) [AmI N,Aif N] vM yR f313 N
def Tv:=JH 115 [Sq7] [Jt] (LW N) [Uk N] f115 N
def Al7:AyJ:=[AyH 3 [3],AyH 11 [3,6,9],AyH 14 [3,15,16,17],(19,⟨[6],[],[(none,6,Az)],[],[]⟩),(27,⟨[12],[],[],[(51456,Ayf),(AxX,Ayf)],[]⟩),AyH 49 [3,6,7,8],AyH 62 [3,6,7,9,10],(82,⟨[3,6,11],[],[(none,6,Az)],[],[]⟩),(102,⟨[12,74,75,76],[],[],[(51456,AxX),(56576,AxX)],[]⟩)]
def Ann:Lk:=⟨[(49,⟨[(3,.i),(6,.c (xo 39168)),(7,.i),(8,.c x64)],[(39168,.arr 156 false Az)]⟩)],[(14,⟨[(3,.c xs),(15,.i),(16,.i),(17,.c x64)],[]⟩,[(0,⟨[(3,.c xs)],[]⟩)]),(62,⟨[(3,.i),(6,.c (xo 39168)),(7,.i),(9,.c (xo Ayo)),(10,.c x64)],[(39168,.arr 156 false Az),(Ayo,.arr 5 false Ar)]⟩,[(2,⟨[(3,.i),(6,.c (xo 39168)),(9,.c (xo Ayo))],[(39168,.arr 156 false Az),(Ayo,.arr 5 false Ar)]⟩)]),(82,⟨[(3,.i),(6,.c (xl Az)),(11,.c x64)],[]⟩,[(4,⟨[(6,.c (xl Az))],[]⟩)]),(102,⟨[(12,.c (xo AxX)),(74,.i),(75,.i),(76,.c x64)],[(AxX,.arr 5 false Ar)]⟩,[(6,⟨[(12,.c (xo Ayf))],[(Ayf,.arr 5 false Ar)]⟩)])]⟩
def Ano:=JF 57 [Sq6] [Jw] (AhE N) [AiL N] Al7 Ann f57 N
def Abz:AyJ:=[AyH 17 [0,2,3]]
def AcL:Lk:=⟨[(17,⟨[(0,.i),(2,.c AB),(3,.c xs)],[(AxQ,.box BC),(Aya,.JS 94 false Aq)]⟩)],[]⟩
def W9:=JF 17 [Jt] [Sq0] (Kz N) [⟨59,kW N,nZ N⟩] Abz AcL f17 N
def Anb:AyJ:=[(3,⟨[4],[([4],3,Aw,AxO)],[],[(AxN,AxO)],[]⟩),(26,⟨[4,18,19,20],[([4],3,Aw,AxN)],[],[(40704,AxN)],[]⟩)]
def ApG:Lk:=⟨[],[(26,⟨[(4,.c (xo AxN)),(18,.i),(19,.i),(20,.c x64)],[(AxN,.arr 3 false Aw)]⟩,[(0,⟨[(4,.c (xo AxO))],[(AxO,.arr 3 false Aw)]⟩)])]⟩
def AeL:=JF 140 [Jw] [Ax6] (Yu N) [⟨193,Uy N,Zy N⟩,ArW N,ApI N] Anb ApG f140 N
def AgV:=JH 210 [.cell false (.int .u8)] [JM] (SQ N) [Ajd N,⟨212,Um N,VU N⟩] f210 N
def Aik:AyJ:=[AyH 3 [],AyH 18 [27,28,29]]
def AkI:Lk:=⟨[],[(18,⟨[(27,.c (xo 39680)),(28,.i),(29,.c x64)],[(39680,.arr 5 false Ar)]⟩,[(0,⟨[],[]⟩)])]⟩
def AkJ:=JF 306 [Jw] [JM] (aX N) [uN N,yT N] Aik AkI f306 N (bb:=[8,12,13,17,18,25])
open Go.Proofs Go.Proofs.Tryz
def AnB:AyJ:=[AyH 3 [0,1,6],AyH 22 [0,1,6,21,22,23],(77,⟨[1,9],[],[],[(45568,AxP),(47616,AxP),(49664,AxP),(52480,AxP)],[]⟩)]
def Aqu:Lk:=⟨[(77,⟨[(1,.i),(9,.c (xo AxP))],[(AxP,.arr 5 false Ar)]⟩)],[(22,⟨[(0,.i),(1,.i),(6,.c x64),(21,.i),(22,.i),(23,.c x64)],[]⟩,[(0,⟨[(0,.i),(1,.i),(6,.c x64)],[]⟩)])]⟩
def Rz:=JF 81 [Jt,Sq6] [Jw,Jt] (fun a=>KI N a.1 a.2) [⟨142,Y2 N,aK N⟩] AnB Aqu f81 N
def Aaf:AyJ:=[AyH 3 [0,3],(11,⟨[5],[([5],5,Ar,AxR)],[],[(AxP,AxR)],[]⟩),AyH 14 [0,3,4],(34,⟨[0,3,5,18,19],[([5],5,Ar,AxP)],[],[(41216,AxP)],[]⟩)]
def Ab3:Lk:=⟨[],[(14,⟨[(0,.i),(3,.c x64),(4,.c x64)],[]⟩,[(0,⟨[(0,.i),(3,.c x64)],[]⟩)]),(34,⟨[(0,.i),(3,.i),(5,.c (xo AxP)),(18,.i),(19,.c x64)],[(AxP,.arr 5 false Ar)]⟩,[(2,⟨[(5,.c (xo AxR))],[(AxR,.arr 5 false Ar)]⟩)])]⟩
def aB:=JF 77 [Jt] [Jw] (Pz N) [] Aaf Ab3 f77 N
def AdR:=JH 200 [Jt] [Jt] (P8 N) [] f200 N
def Am2:=JH 201 [Jt] [JM] (Zd N) [] f201 N
def Am3:AyJ:=[(3,⟨[0,1,7],[],[],[(0,AxO),(AxN,AxO)],[]⟩),AyH 11 [0],(14,⟨[0,1,2,7,8],[],[],[(0,AxN),(37632,AxN)],[]⟩),AyH 30 [0,1,7,9]]
def AoH:Lk:=⟨[],[(14,⟨[(0,.c (xo AxN)),(1,.i),(2,.i),(7,.i),(8,.c x64)],[(AxN,.arr 5 false Ar)]⟩,[(0,⟨[(0,.c (xo AxO)),(1,.i),(7,.i)],[(AxO,.arr 5 false Ar)]⟩)]),(30,⟨[(0,.c (xo AxO)),(1,.c x64),(7,.i),(9,.c x64)],[(AxO,.arr 5 false Ar)]⟩,[(2,⟨[(0,.c (xo AxO))],[(AxO,.arr 5 false Ar)]⟩)])]⟩
def AoI:=JF 85 [Awj,Jt,Jt] [Awj] (fun a=>Qe N a.1 a.2.1 a.2.2) [] Am3 AoH f85 N
def Akz:AyJ:=[AyH 3 [3],AyH 14 [3,9,10,11]]
def Am9:Lk:=⟨[],[(14,⟨[(3,.c (xo Ayb)),(9,.i),(10,.i),(11,.c x64)],[(Ayb,.mp Au Aw)]⟩,[(0,⟨[(3,.c (xo Ayb))],[(Ayb,.mp Au Aw)]⟩)])]⟩
def AmA:=JF 146 [.cell false (.sl 129 Tq4)] [Ax7] (jB N) [] Akz Am9 f146 N
def AnC:=JH 275 [Jt] [Jt] (AaJ N) [] f275 N
def ApH:AyJ:=[AyH 3 [0,1,5],AyH 10 [0,1,5],(11,⟨[0,1],[],[],[(0,AxR),(AxP,AxR)],[]⟩),(22,⟨[0,1,6],[],[],[(0,AxP),(40704,AxP)],[]⟩)]
def ArX:Lk:=⟨[],[(10,⟨[(0,.c (xo 0)),(1,.i),(5,.c x64)],[(0,.arr 5 true Ar)]⟩,[(0,⟨[(0,.c (xo 0)),(1,.i),(5,.c x64)],[(0,.arr 5 true Ar)]⟩)]),(22,⟨[(0,.c (xo AxP)),(1,.i),(6,.c x64)],[(AxP,.arr 5 true Ar)]⟩,[(2,⟨[(0,.c (xo AxR)),(1,.i)],[(AxR,.arr 5 true Ar)]⟩)])]⟩
def ArY:=JF 141 [Awk,Jt] [Awk] (fun a=>nS N a.1 a.2) [] ApH ArX f141 N
open Go.Proofs Go.Proofs.Tryz
def Aim:AyJ:=[AyH 3 [],AyH 18 [32,33,34]]
def AkK:Lk:=⟨[],[(18,⟨[(32,.c (xo 40960)),(33,.i),(34,.c x64)],[(40960,.arr 5 false Ar)]⟩,[(0,⟨[],[]⟩)])]⟩
def AkL:=JF 264 [Jw] [JM] (Xx N) [⟨266,Va N,Xb N⟩,uN N,yT N,⟨212,Um N,VU N⟩] Aim AkK f264 N (bb:=[9,13,14,18,19,26,27,30])
def Aih:AyJ:=[AyH 3 [],AyH 26 [3,4,5,6]]
def AkG:Lk:=⟨[],[(26,⟨[(3,.i),(4,.i),(5,.c xb),(6,.c x64)],[]⟩,[(0,⟨[],[]⟩)])]⟩
def AkH:=JF 218 [Jw] [JM] (Xw N) [Aii N,Apk N] Aih AkG f218 N (bb:=[32,34,35,38,42,43])
def Amb:=JH 284 [Jw,Jw] [JM] (fun a=>XX N a.1 a.2) [An7 N] f284 N
def Aka:=JH 108 [Jt] [JM] (Xo N) [Ahm N] f108 N
def L9:=JH 35 [.box [(false,.bool)],Jt,Sq6] [Jw] (fun a=>JJ N a.1 a.2.1 a.2.2) [Rz N,Nb N] f35 N
def xZ (N n:Nat):Sig:=.of [.cell false (.int .i64)] [.cell false (.int .i64)] (mV N n)
def AdV (N:Nat):oQ Tryz.prog (xZ N):=AnP (Js:=[.cell false (.int .i64)]) (JA:=[.cell false (.int .i64)]) (l:=[(200,fun a=>P8 N a)]) ⟨(AdR N).h,trivial⟩
def uH:=JH 145 [Jt,Jt] [Jt] (fun a=>PU N a.1 a.2) [Am2 N] f145 N
def AnA:AyJ:=[AyH 3 [0,2,5,6,7,8,9],AyH 74 [0,2,5,6,7,8,9,50,51,52],AyH 101 [0,2,5,6,7,8]]
def Aqt:Lk:=⟨[(101,⟨[(0,.i),(2,.c AB),(5,.c AQ),(6,.i),(7,.c x64),(8,.c x64)],[(AxQ,.box BB),(AxU,.box BB)]⟩)],[(74,⟨[(0,.i),(2,.c AB),(5,.c AQ),(6,.i),(7,.c x64),(8,.i),(9,.i),(50,.c (xo 45568)),(51,.i),(52,.c x64)],[(AxQ,.box BB),(AxU,.box BB),(45568,.arr 5 false Ar)]⟩,[(0,⟨[(0,.i),(2,.c AB),(5,.c AQ),(6,.i),(7,.c x64),(8,.i),(9,.i)],[(AxQ,.box BB),(AxU,.box BB)]⟩)])]⟩
def tH:=JF 234 [Jw] [RG,Jw,Jt] (Y3 N) [AnC N] AnA Aqt f234 N
open Go.Proofs Go.Proofs.Tryz
def vO:AyJ:=[AyH 3 [],AyH 18 [8,9,10]]
def zL:Lk:=⟨[],[(18,⟨[(8,.i),(9,.i),(10,.c x64)],[]⟩,[(0,⟨[],[]⟩)])]⟩
def zM:=JF 14 [.cell false (.sl 100 Tq2)] [JM] (Qm N) [ZX N,WA N] vO zL f14 N
def qN:AyJ:=[(3,⟨[0,4],[],[(none,4,Ar)],[],[]⟩),AyH 13 [0,1],(22,⟨[0,4],[],[(none,4,Ar)],[],[41728]⟩)]
def vJ:Lk:=⟨[(13,⟨[(0,.c AL),(1,.i)],[(0,.box Bo)]⟩)],[(22,⟨[(0,.c AL),(4,.c Bg)],[(0,.box Bo)]⟩,[(0,⟨[(0,.c AL),(4,.c Bg)],[(0,.box Bo)]⟩)])]⟩
def vK:=JF 273 [Sq2,Jw] [] (fun a=>Si N a.1 a.2) [nG N,Zh N] qN vJ f273 N
def yQ:AyJ:=[(3,⟨[3,4,5],[],[],[(Ayo,AxP),(AxO,AxP)],[AxP]⟩),AyH 11 [3,4],AyH 19 [3],AyH 27 [7],(29,⟨[3,4,5],[([4],5,Ar,AxN)],[],[(41216,AxN)],[]⟩),(34,⟨[3,4,5],[],[],[(Ayo,AxO),(43776,AxO)],[]⟩),(46,⟨[3,4,5,6],[],[],[(47616,AxP)],[]⟩),(58,⟨[3,4],[],[(none,4,Ar)],[],[]⟩),(78,⟨[7,68,69],[([7],5,Ar,AxX)],[],[(54528,AxX)],[]⟩)]
def Abw:Lk:=⟨[(29,⟨[(3,.c (.c (.Kq AxS 0 0))),(4,.c (xo AxN)),(5,.c x64)],[(0,.box Bo),(AxS,.arr 312 false Az),(AxN,.arr 5 false Ar)]⟩)],[(34,⟨[(3,.c (.c (.Kq AxS 0 0))),(4,.c (xo AxO)),(5,.i)],[(0,.box Bo),(AxS,.arr 312 false Az),(AxO,.arr 5 false Ar)]⟩,[(0,⟨[(3,.c (.c (.Kq AxS 0 0))),(4,.c (xo AxP)),(5,.i)],[(0,.box Bo),(AxS,.arr 312 false Az),(AxP,.arr 5 true Ar)]⟩)]),(46,⟨[(3,.c (.c (.Kq AxS 0 0))),(4,.c (xo AxP)),(5,.i),(6,.c x64)],[(0,.box Bo),(AxS,.arr 312 false Az),(AxP,.arr 5 true Ar)]⟩,[(2,⟨[(3,.c (.c (.Kq AxS 0 0))),(4,.c (xo AxP))],[(0,.box Bo),(AxS,.arr 312 false Az),(AxP,.arr 5 true Ar)]⟩)]),(58,⟨[(3,.c (.c (.Kq AxS 0 0))),(4,.c Bg)],[(0,.box Bo),(AxS,.arr 312 false Az)]⟩,[(4,⟨[(3,.c (.c (.Kq AxS 0 0)))],[(0,.box Bo),(AxS,.arr 312 false Az)]⟩)]),(78,⟨[(7,.c (xo AxX)),(68,.i),(69,.c x64)],[(0,.box Bo),(AxX,.arr 5 false Ar)]⟩,[(6,⟨[(7,.c (xo AxX))],[(0,.box Bo),(AxX,.arr 5 false Ar)]⟩)])]⟩
def Abx:=JF 274 [Sq2] [Jw] (Ut N) [nG N,Zh N] yQ Abw f274 N
def AmW:=JH 16 [Jt] [Jw] (Zj N) [ApV N,Ano N] f16 N
def kT:Sig:=.of [Jw] [JM] (UQ N)
def nR:lL 147 (kT N):=AaX (AaS (ksp [AeL N]) []) AyK f147 N (NQ (Q4 _))
def Ahp (N n:Nat):Sig:=.of [.cell false (.int .u8)] [.cell false .bool] (AaT N n)
def AoM (N:Nat):oQ Tryz.prog (Ahp N):=AnP (Js:=[.cell false (.int .u8)]) (JA:=[.cell false .bool]) (l:=[(210,fun a=>SQ N a),(213,fun a=>SS N a)]) ⟨(AgV N).h,(AgW N).h,trivial⟩
def AmK:AyJ:=[AyH 3 [],AyH 18 [9,10,11]]
def Apj:Lk:=⟨[],[(18,⟨[(9,.i),(10,.i),(11,.c x64)],[]⟩,[(0,⟨[],[]⟩)])]⟩
def aW:=JF 261 [Jw] [JM] (P9 N) [⟨193,Uy N,Zy N⟩,AkJ N] AmK Apj f261 N
def Akl:AyJ:=[AyH 3 [],AyH 10 [3,7,8,9]]
def Am5:Lk:=⟨[],[(10,⟨[(3,.c AO),(7,.i),(8,.i),(9,.c x64)],[(AxS,.box [xs,x64,xs])]⟩,[(0,⟨[],[]⟩)])]⟩
def Am6:=JF 250 [.cell false (.sl 96 Tq0),AjA] [JM] (fun a=>WR N a.1 a.2) [Amb N] Akl Am5 f250 N
open Go.Proofs Go.Proofs.Tryz
def aA:=JH 149 [JM] [Jw] (Rf N) [] f149 N
def uM:=JH 203 [Jt] [Jt] (YB N) [] f203 N
def AcZ:AyJ:=[AyH 3 [0,4],AyH 11 [5],AyH 18 [0,4],AyH 38 [0,5,34,35]]
def AeU:Lk:=⟨[],[(18,⟨[(0,.i),(4,.c x64)],[]⟩,[(0,⟨[(0,.i),(4,.c x64)],[]⟩)]),(38,⟨[(0,.i),(5,.c (xo 38912)),(34,.i),(35,.c x64)],[(38912,.arr 5 false Ar)]⟩,[(2,⟨[(5,.c (xo 38912))],[(38912,.arr 5 false Ar)]⟩)])]⟩
def jM:=JF 151 [Jt] [Jw,Jt] (QG N) [] AcZ AeU f151 N
def Wu:Sig:=.of [.box [(false,.bool)]] [JM] (MW N)
def Ui:lL 38 (Wu N):=AaX (AaS (ksp []) []) AyK f38 N (NQ (Q4 _))
def TL:=JH 71 [Sq8] [JM] (NW N) [] f71 N
def kS:=JH 170 [Jt] [Jw] (Zk N) [] f170 N
def AmZ:=JH 190 [Jt] [Jw] (Ah7 N) [] f190 N
def AcX:=JH 248 [Jt] [Jw] (nV N) [] f248 N
open Go.Proofs Go.Proofs.Tryz
def OH:=JH 29 [.box [(false,.bool)],Sq6] [Jw] (fun a=>Ko N a.1 a.2) [L9 N] f29 N
def Wv:=JH 30 [.box [(false,.bool)],Jt] [Jw] (fun a=>MX N a.1 a.2) [aB N,L9 N] f30 N
def uG:=JF 144 [Jt] [Jt] (RI N) [] [] AyK f144 N (dd:=[(7,xZ N),(12,xZ N)]) (hD:=⟨AdV N,AdV N,trivial⟩)
def Z5:=JH 174 [Jw] [RG,Jt] (Xc N) [tH N] f174 N
def Ajg:AyJ:=[AyH 3 [],AyH 18 [1,5]]
def Ame:Lk:=⟨[],[(18,⟨[(1,.i),(5,.c xs)],[]⟩,[(0,⟨[],[]⟩)])]⟩
def ZR (N n:Nat):Sig:=.of [RG,.cell false (.int .i64)] [.cell false (.int .i64)] (fun a=>RD N n a.1 a.2)
def gY (N:Nat): ∀ n,Spec Tryz.prog 202 (ZR N n)
 | 0=>AaB (C:=ctx Tryz.prog [] []) (fn:=f202) (NQ (gs:=[]) trivial)
 | n+1=>Ug (C:=ctx Tryz.prog ((202,ZR N n)::(ksp [tH N])) Ajg) (L:=Ame) (fn:=f202) (N:=N) (NQ ⟨gY N n,(Q4 _)⟩)
def AaK:Sig:=ZR N N
def Afr (N:Nat):Spec Tryz.prog 202 (AaK N):=gY N N
def Aix:AyJ:=[(3,⟨[5],[],[],[(37888,AxO),(AxN,AxO)],[]⟩),(26,⟨[5,22,23,24],[],[],[(37888,AxN),(40448,AxN)],[]⟩)]
def Alh:Lk:=⟨[],[(26,⟨[(5,.c (xo AxN)),(22,.i),(23,.i),(24,.c x64)],[(AxN,.arr 5 true Ar)]⟩,[(0,⟨[(5,.c (xo AxO))],[(AxO,.arr 5 true Ar)]⟩)])]⟩
def fJ:=JF 80 [Jw] [Jw,Jt] (TB N) [AeL N,ArY N] Aix Alh f80 N
def Abv:=JH 152 [.box [(false,.bool)],Jt,JM] [Jw] (fun a=>ML N a.1 a.2.1 a.2.2) [aA N,L9 N] f152 N
def sQ:=JH 117 [Sq8] [Jt] (UX N) [TL N,Tv N] f117 N
open Go.Proofs Go.Proofs.Tryz
def Ab0:AyJ:=[AyH 3 [],AyH 18 [35,36,37]]
def AcN:Lk:=⟨[],[(18,⟨[(35,.i),(36,.i),(37,.c x64)],[]⟩,[(0,⟨[],[]⟩)])]⟩
def AcO:=JF 4 [Sq1] [JM] (Vz N) [WA N,ZX N,zM N] Ab0 AcN f4 N (bb:=[9,14,15,21,22,27,28,33])
def AmH:AyJ:=[AyH 3 [3],AyH 14 [3,7,8,9]]
def Apf:Lk:=⟨[],[(14,⟨[(3,.c AV),(7,.i),(8,.i),(9,.c x64)],[(AxV,.box Bo)]⟩,[(0,⟨[(3,.c AV)],[(AxV,.box Bo)]⟩)])]⟩
def Apg:=JF 229 [Sq6] [Jw] (qO N) [AkE N,vK N,Abx N] AmH Apf f229 N
def An8:AyJ:=[AyH 3 [],AyH 10 [0,1,5]]
def Aqp:Lk:=⟨[],[(10,⟨[(0,.i),(1,.i),(5,.c x64)],[]⟩,[(0,⟨[],[]⟩)])]⟩
def Aqq:=JF 209 [Jw,.cell false .fn] [JM] (fun a=>WH N a.1 a.2) [] An8 Aqp f209 N (dd:=[(12,Ahp N)]) (hD:=⟨AoM N,trivial⟩)
def AbW:=JF 215 [Jw] [JM] (UK N) [⟨263,uY N,Adp N⟩,AkL N,aW N] [] AyK f215 N (bb:=[13,17,18,21,22,25])
def AmJ:=JH 216 [Jw] [JM] (Zi N) [aW N] f216 N
def Ags:=JH 217 [Jw] [JM] (UL N) [⟨265,Ye N,lF N⟩,aW N,⟨266,Va N,Xb N⟩] f217 N
def Aic:AyJ:=[AyH 3 [],AyH 18 [0,1,12,13]]
def Akm:Lk:=⟨[],[(18,⟨[(0,.i),(1,.i),(12,.i),(13,.c x64)],[]⟩,[(0,⟨[],[]⟩)])]⟩
def Akn:=JF 192 [.cell false (.sl 96 Tq0),.cell false (.sl 96 Tq0)] [JM] (fun a=>aT N a.1 a.2) [Am6 N] Aic Akm f192 N
def AhX:AyJ:=[AyH 3 [2,4,5,6],AyH 11 [2,4,5,6,7],AyH 22 [2,4,5,6],AyH 38 [2,4,5,6,7]]
def Akd:Lk:=⟨[],[(22,⟨[(2,.c AB),(4,.i),(5,.i),(6,.c x64)],[(AxQ,.box Bv)]⟩,[(0,⟨[(2,.c AB),(4,.i),(5,.i),(6,.c x64)],[(AxQ,.box Bv)]⟩)]),(38,⟨[(2,.c AB),(4,.c x64),(5,.i),(6,.i),(7,.c x64)],[(AxQ,.box Bv)]⟩,[(2,⟨[(2,.c AB),(4,.c x64),(5,.i),(6,.i),(7,.c x64)],[(AxQ,.box Bv)]⟩)])]⟩
def Ake:=JF 84 [Jt] [Aop,Jt] (Tm N) [uG N,uH N] AhX Akd f84 N
open Go.Proofs Go.Proofs.Tryz
def Alq:=JH 249 [Jt] [Jw] (nU N) [] f249 N
def Ang:AyJ:=[AyH 3 [3],AyH 14 [3,10,11,12]]
def ApO:Lk:=⟨[],[(14,⟨[(3,.c (xo 35072)),(10,.i),(11,.i),(12,.c x64)],[(35072,.arr 5 false Ar)]⟩,[(0,⟨[(3,.c (xo 35072))],[(35072,.arr 5 false Ar)]⟩)])]⟩
def AeN:=JF 232 [Sq6] [Jw] (fM N) [] Ang ApO f232 N (cc:=[20])
def jK:=JH 186 [Jw,Jt] [Jt] (fun a=>QE N a.1 a.2) [] f186 N
def vU:=JH 138 [Ax8] [Jw] (ZZ N) [] f138 N
def Ai0:AyJ:=[(3,⟨[4,5],[([4],3,Aw,AxO)],[],[(AxN,AxO)],[]⟩),(26,⟨[4,5,14,15,16],[([4],3,Aw,AxN)],[],[(40448,AxN)],[]⟩)]
def Aln:Lk:=⟨[],[(26,⟨[(4,.c (xo AxN)),(5,.c x64),(14,.c (xo 36352)),(15,.i),(16,.c x64)],[(36352,.arr 5 false Ar),(AxN,.arr 3 false Aw)]⟩,[(0,⟨[(4,.c (xo AxO)),(5,.c x64)],[(AxO,.arr 3 false Aw)]⟩)])]⟩
def zZ:=JF 187 [Jw] [AjD,Jt] (TC N) [] Ai0 Aln f187 N
def Aag:=JH 185 [Jw,Jt] [JM] (fun a=>bI N a.1 a.2) [] f185 N
def Ws:=JH 122 [VA] [RG,Jt] (Vp N) [] f122 N
def Ag1:AyJ:=[(3,⟨[3],[([3],3,Aw,AxW)],[],[(AxN,AxW)],[]⟩),AyH 7 [0,3,4],AyH 11 [],(14,⟨[0,3,4],[([3],3,Aw,AxN)],[],[(42240,AxN)],[]⟩),(30,⟨[0,3,4,5],[([3],3,Aw,AxO)],[],[(AxN,AxO)],[]⟩)]
def Aiy:Lk:=⟨[],[(14,⟨[(0,.i),(3,.c (xo AxN)),(4,.c x64)],[(AxN,.arr 3 false Aw)]⟩,[(0,⟨[(3,.c (xo AxW))],[(AxW,.arr 3 false Aw)]⟩)]),(30,⟨[(0,.i),(3,.c (xo AxO)),(4,.c x64),(5,.c x64)],[(AxO,.arr 3 false Aw)]⟩,[(1,⟨[(0,.i),(3,.c (xo 42240)),(4,.c x64)],[(42240,.arr 3 false Aw)]⟩),(2,⟨[],[]⟩)])]⟩
def Aiz:=JF 246 [Jw] [AjD] (Acg N) [] Ag1 Aiy f246 N
open Go.Proofs Go.Proofs.Tryz
def Ox:=JH 67 [VA] [Jt] (Nq N) [] f67 N
def AeT:AyJ:=[AyH 3 [4],AyH 30 [0,4,42,43]]
def Ag6:Lk:=⟨[],[(30,⟨[(0,.i),(4,.c x64),(42,.i),(43,.c x64)],[]⟩,[(0,⟨[(4,.c x64)],[]⟩)])]⟩
def nY:=JF 176 [Jw] [Jt,Jt] (fU N) [] AeT Ag6 f176 N (bb:=[8,12,16,20,21,25,29,30,31,32])
def Ads:AyJ:=[AyH 3 [],AyH 10 [0,3]]
def Afp:Lk:=⟨[],[(10,⟨[(0,.i),(3,.c x64)],[]⟩,[(0,⟨[],[]⟩)])]⟩
def Afq:=JF 235 [.cell false (.sl 108 Tq5)] [JM] (vC N) [] Ads Afp f235 N
def AfS:AyJ:=[AyH 3 [3],AyH 14 [3,7,8,9]]
def Aia:Lk:=⟨[],[(14,⟨[(3,.c x64),(7,.c (xo 34560)),(8,.i),(9,.c x64)],[(34560,.arr 5 false Ar)]⟩,[(0,⟨[(3,.c x64)],[]⟩)])]⟩
def uI:=JF 237 [Jw] [Jt] (RJ N) [] AfS Aia f237 N
def Qg:=JH 126 [VA,Jt] [RG,JM] (fun a=>MG N a.1 a.2) [] f126 N
def ZW:=JH 179 [VA] [Jt] (QR N) [] f179 N
def AdF:AyJ:=[(3,⟨[2,3],[([3],94,Aq,AxO)],[],[(AxN,AxO)],[]⟩),(14,⟨[2,3,7,8,9],[([3],94,Aq,AxN)],[],[(37120,AxN)],[]⟩)]
def AfF:Lk:=⟨[],[(14,⟨[(2,.c AB),(3,.c (xo AxN)),(7,.i),(8,.i),(9,.c x64)],[(AxQ,.box BC),(Aya,.JS 94 false Aq),(AxN,.arr 94 false Aq)]⟩,[(0,⟨[(2,.c AB),(3,.c (xo AxO))],[(AxQ,.box BC),(Aya,.JS 94 false Aq),(AxO,.arr 94 false Aq)]⟩)])]⟩
def mM:=JF 69 [Sq0] [Sq0] (dJ N) [] AdF AfF f69 N
def nX:=JH 278 [Jw] [JM,Jt] (fQ N) [] f278 N
open Go.Proofs Go.Proofs.Tryz
def jL:=JH 230 [Jw,Jw,Jt] [Jt] (fun a=>TY N a.1 a.2.1 a.2.2) [jK N] f230 N
def Ag7:=JH 173 [Jw,Jt] [Jw,Jt] (fun a=>Aae N a.1 a.2) [Aag N] f173 N
def Oy:=JH 63 [VA,Jt] [RG,Jt] (fun a=>Nr N a.1 a.2) [Ws N] f63 N
def Aiw:AyJ:=[(3,⟨[7],[([7],9,Au,AxO)],[],[(AxN,AxO)],[]⟩),(34,⟨[7,36,37,38],[([7],9,Au,AxN)],[],[(45056,AxN)],[]⟩)]
def Alg:Lk:=⟨[],[(34,⟨[(7,.c (xo AxN)),(36,.c (xo 41728)),(37,.i),(38,.c x64)],[(41728,.arr 3 false Aw),(AxN,.arr 9 false Au)]⟩,[(0,⟨[(7,.c (xo AxO))],[(AxO,.arr 9 false Au)]⟩)])]⟩
def fH:=JF 184 [Jw] [Jw,Jt] (bC N) [Aiz N,⟨247,oJ N,AbK N⟩,⟨142,Y2 N,aK N⟩] Aiw Alg f184 N
def Akf:=JH 239 [Jt,Jw] [Aop] (fun a=>AdS N a.1 a.2) [uI N] f239 N
def xW:AyJ:=[AyH 29 [8,9]]
def Abt:Lk:=⟨[(29,⟨[(8,.i),(9,.c x64)],[(0,.box [Bi])]⟩)],[]⟩
def Abu:=JF 280 [VA,Jt] [JM,Jt] (fun a=>Oh N a.1 a.2) [Qg N,nX N] xW Abt f280 N
def Aci:=JH 130 [Jw] [Jw,Jt,Jt] (Aac N) [Aag N] f130 N
def Acb:=JH 27 [oU] [Jt] (Td N) [NH N] f27 N
open Go.Proofs Go.Proofs.Tryz
def AgG:AyJ:=[(3,⟨[3],[([3],9,Au,AxR)],[],[(AxN,AxR)],[]⟩),(11,⟨[3,5,6,10,11,12],[([3],9,Au,AxP)],[],[(AxO,AxP)],[AxP]⟩),(14,⟨[3,10,11,12],[([3],9,Au,AxN)],[],[(43008,AxN)],[]⟩),AyH 19 [7],(26,⟨[3,5,6,10,11,12],[([3],9,Au,AxO)],[],[(AxN,AxO)],[]⟩),AyH 50 [7,42,43,44]]
def AiD:Lk:=⟨[],[(14,⟨[(3,.c (xo AxN)),(10,.i),(11,.i),(12,.c x64)],[(AxN,.arr 9 false Au)]⟩,[(0,⟨[(3,.c (xo AxR))],[(AxR,.arr 9 false Au)]⟩)]),(26,⟨[(3,.c (xo AxO)),(5,.i),(6,.c x64),(10,.i),(11,.i),(12,.i)],[(AxO,.arr 9 false Au)]⟩,[(2,⟨[(3,.c (xo AxP)),(5,.i),(6,.c x64),(10,.i),(11,.i),(12,.i)],[(AxP,.arr 9 true Au)]⟩)]),(50,⟨[(7,.c xs),(42,.c (xo AxR)),(43,.i),(44,.c x64)],[(AxR,.arr 9 false Au)]⟩,[(4,⟨[(7,.c xs)],[]⟩)])]⟩
def AiE:=JF 91 [Sq6] [Jw] (YK N) [] AgG AiD f91 N
def AgH:=JH 153 [Jt] [Jt] (UT N) [] f153 N
def AlA:=JF 154 [Jt,Jt] [Jt] (fun a=>XI N a.1 a.2) [] [] AyK f154 N (bb:=[7,11,12,16,20,21])
def vV:AyJ:=[AyH 3 [4],(11,⟨[4],[],[(none,4,Ar)],[],[]⟩),(18,⟨[3,4,5],[([4],5,Ar,AxN)],[],[(37632,AxN)],[]⟩),(30,⟨[4],[],[(none,4,Ar)],[],[]⟩)]
def Aal:Lk:=⟨[],[(18,⟨[(3,.i),(4,.c (xo AxN)),(5,.c x64)],[(AxN,.arr 5 false Ar)]⟩,[(0,⟨[(4,.c (xo AxN))],[(AxN,.arr 5 false Ar)]⟩)]),(30,⟨[(4,.c Bg)],[]⟩,[(2,⟨[(4,.c Bg)],[]⟩)])]⟩
def Aam:=JF 103 [Jt] [Jw] (TD N) [] vV Aal f103 N (bb:=[23,28,33,34,39,44,45,46])
def AiU:AyJ:=[AyH 3 [4],AyH 10 [1,4,8,9,10]]
def AlI:Lk:=⟨[],[(10,⟨[(1,.i),(4,.c AP),(8,.i),(9,.i),(10,.c x64)],[(AxT,.box [A8,AA,A8])]⟩,[(0,⟨[(4,.c AP)],[(AxT,.box [A8,AA,A8])]⟩)])]⟩
def AlJ:=JF 257 [.cell false (.sl 129 Tq4),Jw] [AjB,JM] (fun a=>XN N a.1 a.2) [] AiU AlI f257 N
def AiF:AyJ:=[AyH 3 [0,2,5,6,8],AyH 70 [0,2,5,6,8,9],AyH 97 [0,2,5,6,7]]
def Al6:Lk:=⟨[(97,⟨[(0,.i),(2,.c AB),(5,.c AQ),(6,.c x64),(7,.c x64)],[(AxQ,.box BB),(AxU,.box BB)]⟩)],[(70,⟨[(0,.i),(2,.c AB),(5,.c AQ),(6,.c x64),(8,.i),(9,.c x64)],[(AxQ,.box BB),(AxU,.box BB)]⟩,[(0,⟨[(0,.i),(2,.c AB),(5,.c AQ),(6,.c x64),(8,.i)],[(AxQ,.box BB),(AxU,.box BB)]⟩)])]⟩
def Aan:=JF 329 [Jw] [RG,Jw,Jt] (XH N) [] AiF Al6 f329 N
def Zr:=JH 158 [JM] [Jw] (Qu N) [] f158 N
def Ab7:AyJ:=[AyH 3 [0,4],AyH 11 [6],AyH 22 [0,4,5],AyH 50 [0,4,6,7]]
def Adf:Lk:=⟨[],[(22,⟨[(0,.i),(4,.c x64),(5,.c x64)],[]⟩,[(0,⟨[(0,.i),(4,.c x64)],[]⟩)]),(50,⟨[(0,.i),(4,.i),(6,.c (xo Aye)),(7,.c x64)],[(Aye,.arr 5 false Ar)]⟩,[(2,⟨[(6,.c (xo Aye))],[(Aye,.arr 5 false Ar)]⟩)])]⟩
def Adg:=JF 159 [Jt] [Jw,Jt] (V4 N) [] Ab7 Adf f159 N
open Go.Proofs Go.Proofs.Tryz
def ZK:=JF 221 [.cell false (.int .u8)] [JM] (PZ N) [] [] AyK f221 N (bb:=[5,8,9,12,15,16,17,20,23,24])
def AgB:AyJ:=[AyH 3 [],AyH 10 [0,1,5]]
def Ai6:Lk:=⟨[],[(10,⟨[(0,.i),(1,.i),(5,.c x64)],[]⟩,[(0,⟨[],[]⟩)])]⟩
def uQ:=JF 222 [.cell false (.int .u8),Jw] [JM] (fun a=>RU N a.1 a.2) [] AgB Ai6 f222 N
def AbJ:=JF 111 [AsI] [JM] (P6 N) [] [] AyK f111 N (bb:=[7,11,12,16,17,21,22,26])
def AgM:AyJ:=[(3,⟨[5],[([5],9,Au,AxO)],[],[(AxN,AxO)],[]⟩),(18,⟨[0,1,5,6,7],[([5],9,Au,AxN)],[],[(40704,AxN)],[]⟩)]
def AiR:Lk:=⟨[],[(18,⟨[(0,.i),(1,.i),(5,.c (xo AxN)),(6,.c x64),(7,.c x64)],[(AxN,.arr 9 false Au)]⟩,[(0,⟨[(5,.c (xo AxO))],[(AxO,.arr 9 false Au)]⟩)])]⟩
def uU:=JF 271 [Jw,.cell false (.int .u8)] [Sq6] (fun a=>Qa N a.1 a.2) [] AgM AiR f271 N
def AgL:AyJ:=[AyH 3 [],AyH 26 [0,3,4,5]]
def AiP:Lk:=⟨[],[(26,⟨[(0,.i),(3,.i),(4,.c xb),(5,.c x64)],[]⟩,[(0,⟨[],[]⟩)])]⟩
def AiQ:=JF 227 [Jw] [JM] (VR N) [] AgL AiP f227 N (bb:=[37,39,40,43,54,55])
def Afa:=JH 228 [Jw] [JM] (TZ N) [] f228 N
def AgQ:=JF 113 [Jt] [JM] (XP N) [] [] AyK f113 N (bb:=[5,8,9,12,15,16])
def AiG:AyJ:=[AyH 3 [0,6],AyH 22 [0,6,22,23,24],(77,⟨[6,10],[],[],[(43008,AxP),(46592,AxP),(49408,AxP),(51456,AxP)],[]⟩)]
def Al8:Lk:=⟨[(77,⟨[(6,.i),(10,.c (xo AxP))],[(AxP,.arr 5 false Ar)]⟩)],[(22,⟨[(0,.i),(6,.c xs),(22,.i),(23,.i),(24,.c x64)],[]⟩,[(0,⟨[(0,.i),(6,.c xs)],[]⟩)])]⟩
def gB:=JF 95 [Jt,Sq6] [Jw,Jt] (fun a=>Rj N a.1 a.2) [] AiG Al8 f95 N
open Go.Proofs Go.Proofs.Tryz
def AcQ:=JH 76 [oU] [AjA] (V3 N) [NH N] f76 N
def AiA:AyJ:=[(3,⟨[3],[([3],5,Ar,AxO)],[],[(AxN,AxO)],[]⟩),(18,⟨[0,3,4],[([3],5,Ar,AxN)],[],[(Ayo,AxN)],[]⟩)]
def Al3:Lk:=⟨[],[(18,⟨[(0,.i),(3,.c (xo AxN)),(4,.c x64)],[(AxN,.arr 5 false Ar)]⟩,[(0,⟨[(3,.c (xo AxO))],[(AxO,.arr 5 false Ar)]⟩)])]⟩
def Al4:=JF 328 [Jw] [Jw] (XG N) [AiC N] AiA Al3 f328 N
def fZ:=JH 165 [Jw] [JM] (OQ N) [Aaq N] f165 N
def Aap:AyJ:=[AyH 7 [],AyH 25 [0,1,11],AyH 30 [0,1,5]]
def Ab8:Lk:=⟨[(25,⟨[(0,.i),(1,.i),(11,.c xb)],[]⟩)],[(30,⟨[(0,.i),(1,.i),(5,.c x64)],[]⟩,[(1,⟨[],[]⟩)])]⟩
def Ab9:=JF 166 [Jt,Jw] [JM] (fun a=>MO N a.1 a.2) [AlD N,ZK N,uQ N] Aap Ab8 f166 N (bb:=[22,27,32,33,34,37,43,44,50,51])
def AlF:AyJ:=[AyH 3 [],AyH 11 [10,11,12],AyH 18 [10,11,12],AyH 38 [4,5,10,11,12]]
def Anr:Lk:=⟨[],[(18,⟨[(10,.i),(11,.i),(12,.c x64)],[]⟩,[(0,⟨[],[]⟩)]),(38,⟨[(4,.i),(5,.c x64),(10,.i),(11,.i),(12,.i)],[]⟩,[(2,⟨[(10,.i),(11,.i),(12,.i)],[]⟩)])]⟩
def YL:=JF 269 [Jw] [JM] (Ns N) [uU N,ZK N] AlF Anr f269 N (bb:=[19,23,24,28,29,36])
def LD:=JH 90 [Jt,Sq6] [Jw] (fun a=>JP N a.1 a.2) [gB N] f90 N
def Aak:AyJ:=[(3,⟨[6],[([6],5,Ar,AxY)],[],[(AxN,AxY)],[]⟩),(11,⟨[6,9,30,31,32],[([6],5,Ar,AxP)],[],[(AxZ,AxP)],[]⟩),(19,⟨[6,9,30,31,32],[([6],5,Ar,AxW)],[],[(AxR,AxW)],[]⟩),(30,⟨[6,30,31,32],[([6],5,Ar,AxN)],[],[(48384,AxN)],[]⟩),(42,⟨[6,8,9,30,31,32],[([9],5,Ar,AxO),([6],5,Ar,AxZ)],[],[(Ayp,AxO),(AxN,AxZ)],[]⟩),(58,⟨[6,9,10,30,31,32],[([6],5,Ar,AxR)],[],[(AxP,AxR)],[]⟩)]
def Ab4:Lk:=⟨[],[(30,⟨[(6,.c (xo AxN)),(30,.c (xo Aye)),(31,.i),(32,.c x64)],[(Aye,.arr 3 false Aw),(AxN,.arr 5 false Ar)]⟩,[(0,⟨[(6,.c (xo AxY))],[(AxY,.arr 5 false Ar)]⟩)]),(42,⟨[(6,.c (xo AxZ)),(8,.c x64),(9,.c (xo AxO)),(30,.c (xo Aye)),(31,.i),(32,.i)],[(Aye,.arr 3 false Aw),(AxO,.arr 5 false Ar),(AxZ,.arr 5 false Ar)]⟩,[(2,⟨[(6,.c (xo AxP)),(9,.c (xo Ayp)),(30,.c (xo Aye)),(31,.i),(32,.i)],[(Aye,.arr 3 false Aw),(Ayp,.arr 5 false Ar),(AxP,.arr 5 false Ar)]⟩)]),(58,⟨[(6,.c (xo AxR)),(9,.c (xo Ayp)),(10,.c x64),(30,.c (xo Aye)),(31,.i),(32,.i)],[(Aye,.arr 3 false Aw),(Ayp,.arr 5 false Ar),(AxR,.arr 5 false Ar)]⟩,[(4,⟨[(6,.c (xo AxW)),(9,.c (xo Ayp)),(30,.c (xo Aye)),(31,.i),(32,.i)],[(Aye,.arr 3 false Aw),(Ayp,.arr 5 false Ar),(AxW,.arr 5 false Ar)]⟩)])]⟩
def Ab5:=JF 160 [Jw] [Jw,Jt] (Uw N) [Aaq N] Aak Ab4 f160 N
def AgD:AyJ:=[AyH 3 [0,2,4,5],AyH 11 [0,2,4,5,6],AyH 22 [0,2,4,5],AyH 38 [0,2,4,5,6]]
def Ai8:Lk:=⟨[],[(22,⟨[(0,.i),(2,.c AB),(4,.i),(5,.c x64)],[(AxQ,.box Bv)]⟩,[(0,⟨[(0,.i),(2,.c AB),(4,.i),(5,.c x64)],[(AxQ,.box Bv)]⟩)]),(38,⟨[(0,.i),(2,.c AB),(4,.c x64),(5,.i),(6,.c x64)],[(AxQ,.box Bv)]⟩,[(2,⟨[(0,.i),(2,.c AB),(4,.c x64),(5,.i),(6,.c x64)],[(AxQ,.box Bv)]⟩)])]⟩
def Ai9:=JF 93 [Jt] [Aop,Jt] (YI N) [AgH N,AlA N] AgD Ai8 f93 N
open Go.Proofs Go.Proofs.Tryz
def An9:AyJ:=[(3,⟨[4],[([4],108,Tq5,AxO)],[],[(AxN,AxO)],[]⟩),(10,⟨[0,4],[([4],108,Tq5,AxN)],[],[(38400,AxN)],[]⟩)]
def Aqr:Lk:=⟨[],[(10,⟨[(0,.c xs),(4,.c (xo AxN))],[(AxN,.arr 108 false Tq5)]⟩,[(0,⟨[(4,.c (xo AxO))],[(AxO,.arr 108 false Tq5)]⟩)])]⟩
def Ry:=JF 175 [Jw] [.cell false (.sl 108 Tq5),Jt] (TN N) [tH N] An9 Aqr f175 N
def xM:=JH 123 [VA] [Jt,Jt] (qA N) [Oy N,nY N] f123 N
def Ai4:AyJ:=[AyH 3 [8],AyH 46 [4,8,35,36]]
def Alu:Lk:=⟨[],[(46,⟨[(4,.i),(8,.c x64),(35,.i),(36,.c x64)],[]⟩,[(0,⟨[(8,.c x64)],[]⟩)])]⟩
def Aad:=JF 281 [Jw] [Jt,Jt] (bH N) [Aci N,ApR N] Ai4 Alu f281 N
def AdM:=JH 66 [VA] [Jw,Jt] (uB N) [Oy N,Aci N] f66 N
def AkY:AyJ:=[(3,⟨[2,3],[],[],[(33637,AxR),(AxN,AxR)],[]⟩),(11,⟨[0,2,3,4,5],[([5],96,Tq0,AxP)],[],[(33637,Ayg),(AxO,AxP),(AxZ,Ayg)],[]⟩),(14,⟨[0,2,3,4],[],[],[(33637,AxN),(44288,AxN)],[]⟩),(30,⟨[0,2,3,4,5,6],[([5],96,Tq0,AxO)],[],[(33637,AxZ),(43008,AxO),(AxN,AxZ)],[]⟩)]
def AmV:Lk:=⟨[],[(14,⟨[(0,.c AL),(2,.c AB),(3,.c AO),(4,.c x64)],[(0,.box BA),(AxQ,.box BC),(Aya,.JS 94 false Aq),(AxS,.box [(xo AxN)]),(AxN,.arr 94 false Aq)]⟩,[(0,⟨[(2,.c AB),(3,.c AO)],[(0,.box BA),(AxQ,.box BC),(Aya,.JS 94 false Aq),(AxS,.box [(xo AxR)]),(AxR,.arr 94 false Aq)]⟩)]),(30,⟨[(0,.c AL),(2,.c AB),(3,.c AO),(4,.i),(5,.c (xo AxO)),(6,.c x64)],[(0,.box BA),(AxQ,.box BC),(Aya,.JS 94 false Aq),(AxS,.box [(xo AxZ)]),(AxO,.arr 96 false Tq0),(AxZ,.arr 94 false Aq)]⟩,[(2,⟨[(0,.c AL),(2,.c AB),(3,.c AO),(4,.i),(5,.c (xo AxP))],[(0,.box BA),(AxQ,.box BC),(Aya,.JS 94 false Aq),(AxS,.box [(xo Ayg)]),(AxP,.arr 96 false Tq0),(Ayg,.arr 94 false Aq)]⟩)])]⟩
def Aca:=JF 26 [oU] [Sq0] (UN N) [NH N,AcQ N] AkY AmV f26 N
def Ab6:=JH 301 [Jw,Jw] [JM] (fun a=>Ri N a.1 a.2) [Al4 N] f301 N
def gG:AyJ:=[AyH 3 [],AyH 10 [0,6,7,8],AyH 11 [0,6,7,8],AyH 46 [0,3,4,5,6,7,8]]
def iJ:Lk:=⟨[],[(10,⟨[(0,.i),(6,.i),(7,.i),(8,.c x64)],[]⟩,[(0,⟨[],[]⟩)]),(46,⟨[(0,.i),(3,.i),(4,.c AP),(5,.c x64),(6,.i),(7,.i),(8,.i)],[(AxT,.box [xs,x64,xs])]⟩,[(2,⟨[(0,.i),(6,.i),(7,.i),(8,.i)],[]⟩)])]⟩
def iK:=JF 110 [.cell false (.sl 96 Tq0)] [Jt] (LG N) [fZ N,Ab9 N] gG iJ f110 N
def AgO:AyJ:=[AyH 3 [0,5],AyH 11 [0,5],AyH 18 [0,5],AyH 38 [0,5,6]]
def AiS:Lk:=⟨[],[(18,⟨[(0,.i),(5,.c x64)],[]⟩,[(0,⟨[(0,.i),(5,.c x64)],[]⟩)]),(38,⟨[(0,.i),(5,.i),(6,.c x64)],[]⟩,[(2,⟨[(0,.i),(5,.i)],[]⟩)])]⟩
def AiT:=JF 270 [Jw] [Jw,Jw,JM] (YN N) [YL N,ZK N,uQ N] AgO AiS f270 N (bb:=[24,27,28,33,34,41,42,46,47,53,64,70,71,76,82,83])
open Go.Proofs Go.Proofs.Tryz
def AlB:AyJ:=[AyH 3 [5],AyH 10 [1,5]]
def Anp:Lk:=⟨[],[(10,⟨[(1,.i),(5,.c xs)],[]⟩,[(0,⟨[(5,.c xs)],[]⟩)])]⟩
def Anq:=JF 94 [Jt,Jt] [Jw] (fun a=>NV N a.1 a.2) [⟨59,kW N,nZ N⟩] AlB Anp f94 N
def YM:=JH 42 [Jt,Sq6] [Jw,Jt] (fun a=>MI N a.1 a.2) [gB N] f42 N
def Anm:=JH 302 [Jw] [RG,Jt] (jQ N) [Aan N] f302 N
def AgI:AyJ:=[AyH 3 [],AyH 18 [1,5]]
def AiJ:Lk:=⟨[],[(18,⟨[(1,.i),(5,.c xs)],[]⟩,[(0,⟨[],[]⟩)])]⟩
def Yy (N n:Nat):Sig:=.of [RG,.cell false (.int .i64)] [.cell false (.int .i64)] (fun a=>RV N n a.1 a.2)
def aC (N:Nat): ∀ n,Spec Tryz.prog 303 (Yy N n)
 | 0=>AaB (C:=ctx Tryz.prog [] []) (fn:=f303) (NQ (gs:=[]) trivial)
 | n+1=>Ug (C:=ctx Tryz.prog ((303,Yy N n)::(ksp [Aan N])) AgI) (L:=AiJ) (fn:=f303) (N:=N) (NQ ⟨aC N n,(Q4 _)⟩)
def uS:Sig:=Yy N N
def Adh (N:Nat):Spec Tryz.prog 303 (uS N):=aC N N
open Go.Proofs Go.Proofs.Tryz
def AlE:=JH 225 [Jw] [JM] (XK N) [YL N] f225 N
def Afb:=JF 226 [Jw] [JM] (Ua N) [YL N,uU N] [] AyK f226 N (bb:=[5,9,13,14,18,19,23,24,29,30])
def kX:=JH 104 [Jw] [Jw] (UU N) [Ab5 N,LD N] f104 N
def Zq:=JH 40 [Jt] [Jw,Jt] (Lc N) [Ai9 N,Anq N,gB N] f40 N
def Yz:=JH 45 [Jt,Jt] [Jw] (fun a=>LH N a.1 a.2) [Aam N,LD N] f45 N
def Ai7:=JH 258 [Jw] [Jt] (VQ N) [Anm N,⟨303,uS N,Adh N⟩] f258 N
def Afc:=JH 100 [Jt,JM] [Jw] (fun a=>N9 N a.1 a.2) [Zr N,LD N] f100 N
def uV:=JH 101 [Jt,Jt] [Jw] (fun a=>Qb N a.1 a.2) [Adg N,LD N] f101 N
open Go.Proofs Go.Proofs.Tryz
def AdQ:AyJ:=[AyH 3 [1,4],AyH 30 [1,4,5]]
def AfQ:Lk:=⟨[],[(30,⟨[(1,.c AU),(4,.c x64),(5,.c x64)],[(Ayc,.box BG)]⟩,[(0,⟨[(1,.c AU),(4,.c x64)],[(Ayc,.box BG)]⟩)])]⟩
def AfR:=JF 238 [Aop] [Jt,Jt] (xU N) [uH N,uG N] AdQ AfQ f238 N (bb:=[9,13,14,18,19,23,24,28,29,38,42,46,47,51,52,56,57,61,62,66])
def Ac5:AyJ:=[AyH 89 [2,4,5,6]]
def Aea:Lk:=⟨[(89,⟨[(2,.c AB),(4,.c AP),(5,.c AQ),(6,.c Bi)],[(AxQ,.box [A8,AA,A8]),(AxT,.box [A8,AA,A8]),(AxU,.box [xs,xb,A8])]⟩)],[]⟩
def Aeb:=JF 241 [RG] [AjB,Jt] (uK N) [Ry N,fH N,nX N] Ac5 Aea f241 N
def nK:=JH 73 [oU] [Afz] (SG N) [NH N,Aca N] f73 N
def AlG:AyJ:=[AyH 3 [],AyH 10 [3,7,8,9]]
def Ant:Lk:=⟨[],[(10,⟨[(3,.c AO),(7,.i),(8,.i),(9,.c x64)],[(AxS,.box [xs,x64,xs])]⟩,[(0,⟨[],[]⟩)])]⟩
def Anu:=JF 256 [.cell false (.sl 96 Tq0),AjA] [JM] (fun a=>WY N a.1 a.2) [Ab6 N] AlG Ant f256 N
def Aar:AyJ:=[AyH 3 [],AyH 18 [11,12,13]]
def AbA:Lk:=⟨[],[(18,⟨[(11,.i),(12,.i),(13,.c x64)],[]⟩,[(0,⟨[],[]⟩)])]⟩
def PI:=JF 52 [Sq0] [Jt] (LP N) [iK N] Aar AbA f52 N
def Aau:=JH 224 [Jw] [JM] (V6 N) [AiT N] f224 N
def vZ:AyJ:=[(3,⟨[3],[([3],9,Au,AxO)],[],[(AxN,AxO)],[]⟩),(14,⟨[3,6,7,8],[([3],9,Au,AxN)],[],[(39168,AxN)],[]⟩)]
def Aax:Lk:=⟨[],[(14,⟨[(3,.c (xo AxN)),(6,.i),(7,.i),(8,.c x64)],[(AxN,.arr 9 false Au)]⟩,[(0,⟨[(3,.c (xo AxO))],[(AxO,.arr 9 false Au)]⟩)])]⟩
def Aay:=JF 92 [.cell false (.sl 96 Tq0)] [Sq6] (TE N) [kX N,LD N] vZ Aax f92 N
def Aa1:AyJ:=[AyH 3 [],AyH 10 [0,8,9,10]]
def AbH:Lk:=⟨[],[(10,⟨[(0,.i),(8,.i),(9,.i),(10,.c x64)],[]⟩,[(0,⟨[],[]⟩)])]⟩
def AbI:=JF 206 [.cell false (.sl 129 Tq4)] [Jt] (XO N) [fZ N,AlJ N,Ai7 N] Aa1 AbH f206 N
open Go.Proofs Go.Proofs.Tryz
def Acl:Sig:=.of [Jw] [Jt] (Z4 N)
def AgY:lL 148 (Acl N):=AaX (AaS (ksp [Z5 N,⟨202,AaK N,Afr N⟩]) []) AyK f148 N (NQ (Q4 _))
def Ac6:AyJ:=[AyH 49 [1,6]]
def Aec:Lk:=⟨[(49,⟨[(1,.c AU),(6,.c (xo 36864))],[(Ayc,.box [xs,xb,xs]),(36864,.arr 9 false Au)]⟩)],[]⟩
def Aed:=JF 87 [AjB] [Jw,Jt] (TU N) [fJ N,Rz N,aA N] Ac6 Aec f87 N
def iI:=JH 82 [AjA] [Jw,Jt] (Pq N) [fJ N,Rz N] f82 N
def Yb:=JH 31 [] [Jw] (fun _=>Nh N) [fJ N,Rz N] f31 N
def O7:Sig:=.of [Jw,Jt] [RG,Jt] (fun a=>Sv N a.1 a.2)
def Sz:lL 120 (O7 N):=AaX (AaS (ksp [Z5 N]) []) AyK f120 N (NQ (Q4 _))
def Qd (N:Nat):Alt:=.of [.cell false .str] [VA,.cell false (.int .i64)] [.cell false .ptr,.cell false (.int .i64)] (fun a=>UC N a)
def Tn (N:Nat):Spec Tryz.prog 121 (Qd N).1/\Spec Tryz.prog 121 (Qd N).2.1:=Vf (C:=ctx Tryz.prog (ksp [Ry N]) []) (L:=⟨[],[]⟩) (fn:=f121) (N:=N) (NQ (Q4 _)) (by kernel_rfl) (by kernel_rfl) (fun a=>by kernel_rfl)
def eX:=JH 129 [RG] [Jt] (VO N) [Ry N,fH N] f129 N
def dQ:AyJ:=[AyH 85 [2,4,5,7]]
def iF:Lk:=⟨[(85,⟨[(2,.c AB),(4,.c AP),(5,.i),(7,.i)],[(AxQ,.box [A8,A7,A8]),(AxT,.box [A8,A7,A8])]⟩)],[]⟩
def iG:=JF 236 [RG] [AjA,Jt] (WQ N) [Ry N,fH N] dQ iF f236 N
open Go.Proofs Go.Proofs.Tryz
def iY:=JH 65 [VA] [Jt] (ZB N) [Ws N,eX N] f65 N
def iH:AyJ:=[(3,⟨[6],[([6],96,Tq0,AxO)],[],[(AxN,AxO)],[]⟩),(42,⟨[6,26,27,28],[([6],96,Tq0,AxN)],[],[(43776,AxN)],[]⟩)]
def kJ:Lk:=⟨[],[(42,⟨[(6,.c (xo AxN)),(26,.i),(27,.i),(28,.c x64)],[(AxN,.arr 96 false Tq0)]⟩,[(0,⟨[(6,.c (xo AxO))],[(AxO,.arr 96 false Tq0)]⟩)])]⟩
def kK:=JF 177 [RG] [.cell false (.sl 96 Tq0),Jt] (Xq N) [Ry N,Afq N,iG N] iH kJ f177 N
def AfO:AyJ:=[AyH 33 [1,6],AyH 69 [1,6,7]]
def AhY:Lk:=⟨[(33,⟨[(1,.i),(6,.c x64)],[]⟩),(69,⟨[(1,.i),(6,.i),(7,.c x64)],[]⟩)],[]⟩
def uD:=JF 178 [Jt,Jw] [Jt,Jt] (fun a=>kG N a.1 a.2) [uI N,Akf N,AfR N] AfO AhY f178 N
def Q3 (N:Nat):Alt:=.of [VA] [VA,.cell false (.int .i64)] [.cell false .ptr,.cell false (.int .i64)] (fun a=>VD N a)
def WO (N:Nat):Spec Tryz.prog 180 (Q3 N).1/\Spec Tryz.prog 180 (Q3 N).2.1:=Vf (C:=ctx Tryz.prog (ksp [Oy N]) [] [(121,Qd N)]) (L:=⟨[],[]⟩) (fn:=f180) (N:=N) (NQ (Q4 _) ⟨Tn N,trivial⟩) (by kernel_rfl) (by kernel_rfl) (fun a=>by kernel_rfl)
def uA:=JH 243 [Jw,Jt] [Jt,Jt] (fun a=>Y7 N a.1 a.2) [⟨120,O7 N,Sz N⟩,nY N] f243 N
def Agx:AyJ:=[(3,⟨[3],[([3],100,Tq2,AxP)],[],[(AxN,AxP)],[]⟩),(14,⟨[0,3,4],[([3],100,Tq2,AxN)],[],[(41216,AxN)],[]⟩),(33,⟨[0,3,4,5],[([3],100,Tq2,AxO)],[(some AxU,3,Aq)],[(AxN,AxO)],[]⟩)]
def Air:Lk:=⟨[(33,⟨[(0,.c AL),(3,.c (xo AxO)),(4,.i),(5,.c AQ)],[(0,.box BA),(AxU,.box [(xo 36608),x64,xb,Bc]),(36608,.arr 98 false Tq1),(AxO,.arr 100 false Tq2)]⟩)],[(14,⟨[(0,.c AL),(3,.c (xo AxN)),(4,.c x64)],[(0,.box BA),(AxN,.arr 100 false Tq2)]⟩,[(0,⟨[(3,.c (xo AxP))],[(0,.box BA),(AxP,.arr 100 false Tq2)]⟩)])]⟩
def Ais:=JF 74 [oU] [.cell false (.sl 100 Tq2)] (YE N) [NH N,nK N,W9 N] Agx Air f74 N
def AbC:AyJ:=[AyH 3 [],AyH 18 [0,1,12,13]]
def Adl:Lk:=⟨[],[(18,⟨[(0,.i),(1,.i),(12,.i),(13,.c x64)],[]⟩,[(0,⟨[],[]⟩)])]⟩
def Adm:=JF 204 [.cell false (.sl 96 Tq0),.cell false (.sl 96 Tq0)] [JM] (fun a=>V7 N a.1 a.2) [Anu N] AbC Adl f204 N
def Adj:=JF 223 [Jw] [JM] (SN N) [Aau N,YL N] [] AyK f223 N (bb:=[5,8,9,13,17,18,22,23,27,28])
open Go.Proofs Go.Proofs.Tryz
def SA:=JH 168 [Sq6] [Jw] (MM N) [Apg N] f168 N
def Amc:=JH 161 [Jt,Jw] [JM] (fun a=>TM N a.1 a.2) [⟨208,Afo N,Aje N⟩,Aqq N] f161 N
def Aet:=JH 214 [Jw] [JM] (TV N) [AbW N,⟨262,XW N,iO N⟩,aW N] f214 N
def AdY:AyJ:=[AyH 3 [],AyH 18 [2,3,15,16]]
def AfY:Lk:=⟨[],[(18,⟨[(2,.c AB),(3,.c AO),(15,.i),(16,.c x64)],[(AxQ,.box [Bc]),(AxS,.box [Bc])]⟩,[(0,⟨[],[]⟩)])]⟩
def AfZ:=JF 139 [Sq0,Sq0] [JM] (fun a=>UE N a.1 a.2) [Akn N] AdY AfY f139 N
def AfP:AyJ:=[AyH 3 [6,7],(37,⟨[4,6,7],[],[],[(38144,AxN),(39680,AxN)],[]⟩),(42,⟨[6,7,38,39,40],[],[],[(44544,AxN)],[]⟩)]
def AhZ:Lk:=⟨[(37,⟨[(4,.c AP),(6,.c x64),(7,.c (xo AxN))],[(AxT,.box BG),(AxN,.arr 5 false Ar)]⟩)],[(42,⟨[(6,.i),(7,.c (xo AxN)),(38,.c (xo 42496)),(39,.i),(40,.c x64)],[(42496,.arr 3 false Aw),(AxN,.arr 5 false Ar)]⟩,[(0,⟨[(6,.i),(7,.c (xo AxN))],[(AxN,.arr 5 false Ar)]⟩)])]⟩
def uF:=JF 34 [Jt] [Jw,Jt] (MF N) [Ake N,AoI N,Rz N] AfP AhZ f34 N
def Akw:AyJ:=[AyH 3 [],AyH 30 [3,15,16,17]]
def Am8:Lk:=⟨[],[(30,⟨[(3,.c (xo 36352)),(15,.i),(16,.i),(17,.c x64)],[(36352,.mp Au Aw)]⟩,[(0,⟨[],[]⟩)])]⟩
def AbR:=JF 86 [.cell false (.sl 129 Tq4)] [Jt] (Ze N) [AmA N,⟨147,kT N,nR N⟩,⟨148,Acl N,AgY N⟩] Akw Am8 f86 N
def P7:Sig:=.of [.box [(false,.bool)],.box [(false,.str)],.box [(false,.str)]] [Jw] (fun a=>PS N a.1 a.2.1 a.2.2)
def Acw:lL 172 (P7 N):=AaX (AaS (ksp [Yb N,Ag7 N,Nb N,L9 N,OH N]) []) AyK f172 N (NQ (Q4 _))
def Vo (N:Nat):Alt:=.of [.cell false .str,.cell false (.int .i64)] [VA,.cell false (.int .i64)] [.cell false .ptr,.cell false (.int .i64)] (fun a=>dM N a.1 a.2)
def Xp (N:Nat):Spec Tryz.prog 62 (Vo N).1/\Spec Tryz.prog 62 (Vo N).2.1:=Vf (C:=ctx Tryz.prog (ksp [⟨120,O7 N,Sz N⟩]) [] [(121,Qd N)]) (L:=⟨[],[]⟩) (fn:=f62) (N:=N) (NQ (Q4 _) ⟨Tn N,trivial⟩) (by kernel_rfl) (by kernel_rfl) (fun a=>by kernel_rfl)
open Go.Proofs Go.Proofs.Tryz
def VF (N:Nat):Alt:=.of [.cell false .str,.cell false (.int .i64)] [Sq7,.cell false (.int .i64)] [.cell false .ptr,.cell false (.int .i64)] (fun a=>Uu N a.1 a.2)
def vP (N:Nat):Spec Tryz.prog 114 (VF N).1/\Spec Tryz.prog 114 (VF N).2.1:=Vf (C:=ctx Tryz.prog (ksp [SA N]) [] [] [] [23]) (L:=⟨[],[]⟩) (fn:=f114) (N:=N) (NQ (Q4 _)) (by kernel_rfl) (by kernel_rfl) (fun a=>by kernel_rfl)
def kH:AyJ:=[AyH 3 [],AyH 11 [0,13,14,15],AyH 26 [0,13,14,15],AyH 62 [0,4,13,14,15,41,42,43]]
def mY:Lk:=⟨[],[(26,⟨[(0,.i),(13,.i),(14,.i),(15,.c x64)],[]⟩,[(0,⟨[],[]⟩)]),(62,⟨[(0,.i),(4,.c AP),(13,.i),(14,.i),(15,.i),(41,.i),(42,.i),(43,.c x64)],[(AxT,.box [xs,x64,xs])]⟩,[(2,⟨[(0,.i),(13,.i),(14,.i),(15,.i)],[]⟩)])]⟩
def mZ:=JF 105 [.cell false (.sl 96 Tq0)] [Jt] (OC N) [⟨147,kT N,nR N⟩,Amc N] kH mY f105 N
def yP:=JF 163 [Jt,Jw,JM] [JM] (fun a=>OJ N a.1 a.2.1 a.2.2) [Aet N,AbW N,AmJ N,Ags N,AkH N,Agr N] [] AyK f163 N (bb:=[11,14,15,18,21,22,26,29,30,33,36,37,41,44,45,48,51,52])
def ZC:=JH 78 [Sq0,Sq0] [JM] (fun a=>PV N a.1 a.2) [AfZ N] f78 N
def Aie:AyJ:=[(3,⟨[5],[([5],9,Au,AxO)],[],[(AxN,AxO)],[]⟩),(26,⟨[5,17,18,19],[([5],9,Au,AxN)],[],[(41216,AxN)],[]⟩)]
def Aky:Lk:=⟨[],[(26,⟨[(5,.c (xo AxN)),(17,.i),(18,.i),(19,.c x64)],[(AxN,.arr 9 false Au)]⟩,[(0,⟨[(5,.c (xo AxO))],[(AxO,.arr 9 false Au)]⟩)])]⟩
def yE:=JF 36 [.cell false (.sl 129 Tq4)] [Jw,Jt] (Vr N) [AbR N,Aed N,Rz N] Aie Aky f36 N
def jG:=JH 135 [Jw,Jt,Jt,Jw,Jw] [Jw] (fun a=>Wn N a.1 a.2.1 a.2.2.1 a.2.2.2.1 a.2.2.2.2) [AmZ N,kS N,SA N] f135 N
def Anh:AyJ:=[AyH 3 [5],AyH 10 [0,1,2,4,5,13]]
def ApP:Lk:=⟨[],[(10,⟨[(0,.i),(1,.i),(2,.i),(4,.i),(5,.c xs),(13,.c x64)],[]⟩,[(0,⟨[(5,.c xs)],[]⟩)])]⟩
def rO:=JF 188 [Jw,Jt,Jt,Jt,Jt,Jw] [Jw] (fun a=>Yv N a.1 a.2.1 a.2.2.1 a.2.2.2.1 a.2.2.2.2.1 a.2.2.2.2.2) [AcX N,Alq N,SA N] Anh ApP f188 N
def Aaa:=JH 189 [Jw,Jt,Sq6] [Jw] (fun a=>XC N a.1 a.2.1 a.2.2) [AcX N,AeN N,SA N] f189 N
open Go.Proofs Go.Proofs.Tryz
def Aab:=JH 231 [Jw,Jt,Jt] [Jw] (fun a=>XD N a.1 a.2.1 a.2.2) [AcX N,Alq N,SA N] f231 N
def jF:=JH 134 [RG,Jt,Jw] [Jw] (fun a=>QC N a.1 a.2.1 a.2.2) [kS N,SA N] f134 N
def AdP:=JH 125 [VA] [Jt,Jt] (qB N) [Ws N,uD N] f125 N
def Aid:AyJ:=[(3,⟨[7],[([7],129,Tq4,AxO)],[],[(AxN,AxO)],[]⟩),(46,⟨[7,33,34,35],[([7],129,Tq4,AxN)],[],[(45568,AxN)],[]⟩)]
def Akx:Lk:=⟨[],[(46,⟨[(7,.c (xo AxN)),(33,.i),(34,.i),(35,.c x64)],[(AxN,.arr 129 false Tq4)]⟩,[(0,⟨[(7,.c (xo AxO))],[(AxO,.arr 129 false Tq4)]⟩)])]⟩
def yD:=JF 182 [Jw] [.cell false (.sl 129 Tq4),Jt] (qI N) [Z5 N,Ry N,Aeb N,AbR N] Aid Akx f182 N
def AhW:=JH 276 [Jw] [Jt,Jt] (AbP N) [Z5 N,uD N] f276 N
def xJ:=JF 242 [Jw] [Jw,Jt] (dK N) [Oy N,Ox N] [] AyK f242 N (aa:=[(62,Vo N)]) (hA:=⟨Xp N,trivial⟩)
def vY:AyJ:=[AyH 3 [],AyH 18 [2,3,15,16]]
def Aav:Lk:=⟨[],[(18,⟨[(2,.c AB),(3,.c AO),(15,.i),(16,.c x64)],[(AxQ,.box [Bc]),(AxS,.box [Bc])]⟩,[(0,⟨[],[]⟩)])]⟩
def Aaw:=JF 155 [Sq0,Sq0] [JM] (fun a=>Qy N a.1 a.2) [Adm N] vY Aav f155 N
end
end Go.Proofs.YtehkhflpjkokeaaGreatDoor.Vm
