import Derived.Test.YtmgpaalplkkpnaaGreatDoorA13
set_option linter.all false
namespace Go.Proofs.YtmgpaalplkkpnaaGreatDoor.Vm
noncomputable section
variable (N:Nat)
open Go.Proofs Go.Proofs.Tryz
def Asv:A55:=[A53 3 [],A53 10 [0,1,5]]
def AvC:Lk:=⟨[],[(10,⟨[(0,.i),(1,.i),(5,.c x64)],[]⟩,[(0,⟨[],[]⟩)])]⟩
def Ako:Sig:=.of [J8,.cell false .fn] [JY] (fun a=>Yt N a.1 a.2)
def Aoh:Jy 244 (Ako N):=J5 (J4 [] Asv [] [(12,Am1 N)]) AvC f244 N (Jw trivial trivial ⟨Aug N,trivial⟩)
def xY:Sig:=.of [J8] [JY] (VN N)
def Aak:Jy 250 (xY N):=J5 (J4 [(283,AcG N),(284,Aei N),(281,Zn N)] [] [] [] [] [13,17,18,21,22,25]) A56 f250 N (Jw ⟨Aih N,Ajt N,XT N,trivial⟩)
def Ag6:Sig:=.of [J8] [JY] (gY N)
def Alk:Jy 251 (Ag6 N):=J5 (J4 [(281,Zn N)] []) A56 f251 N (Jw ⟨XT N,trivial⟩)
def Aal:Sig:=.of [J8] [JY] (VO N)
def AfX:Jy 252 (Aal N):=J5 (J4 [(285,aY N),(281,Zn N),(286,Wq N)] []) A56 f252 N (Jw ⟨yR N,XT N,YJ N,trivial⟩)
def Anj:A55:=[A53 3 [],A53 18 [0,1,12,13]]
def Apk:Lk:=⟨[],[(18,⟨[(0,.i),(1,.i),(12,.i),(13,.c x64)],[]⟩,[(0,⟨[],[]⟩)])]⟩
def AdJ:Sig:=.of [.cell false (.sl 102 Tq0),.cell false (.sl 102 Tq0)] [JY] (fun a=>mQ N a.1 a.2)
def AiT:Jy 209 (AdJ N):=J5 (J4 [(255,Agx N)] Anj) Apk f209 N (Jw ⟨AkV N,trivial⟩)
def Anc:A55:=[A53 3 [2,4,5,6],A53 11 [2,4,5,6,7],A53 22 [2,4,5,6],A53 38 [2,4,5,6,7]]
def Apd:Lk:=⟨[],[(22,⟨[(2,.c AB),(4,.i),(5,.i),(6,.c x64)],[(A4N,.box Bv)]⟩,[(0,⟨[(2,.c AB),(4,.i),(5,.i),(6,.c x64)],[(A4N,.box Bv)]⟩)]),(38,⟨[(2,.c AB),(4,.c x64),(5,.i),(6,.i),(7,.c x64)],[(A4N,.box Bv)]⟩,[(2,⟨[(2,.c AB),(4,.c x64),(5,.i),(6,.i),(7,.c x64)],[(A4N,.box Bv)]⟩)])]⟩
def AdD:Sig:=.of [J3] [Sq7,J3] (mJ N)
def AiJ:Jy 98 (AdD N):=J5 (J4 [(160,jK N),(161,jL N)] Anc) Apd f98 N (Jw ⟨pI N,pJ N,trivial⟩)
def AgW:Sig:=.of [J8] [J3] (wW N)
def Amg:Jy 164 (AgW N):=J5 (J4 [(138,YL N),(219,Afs N)] []) A56 f164 N (Jw ⟨Ws N,Akr N,trivial⟩)
def Aho:A55:=[A53 49 [1,6]]
def AiY:Lk:=⟨[(49,⟨[(1,.c AU),(6,.c (xo 36864))],[(A4Z,.box [xs,xb,xs]),(36864,.arr 9 false Au)]⟩)],[]⟩
def uZ:Sig:=.of [AoE] [J8,J3] (XQ N)
def AdQ:Jy 101 (uZ N):=J5 (J4 [(94,ZF N),(95,QM N),(165,Xn N)] Aho) AiY f101 N (Jw ⟨ZG N,Py N,ZN N,trivial⟩)
open Go.Proofs Go.Proofs.Tryz
def Afp:Sig:=.of [J3,J8] [JY] (fun a=>UO N a.1 a.2)
def Akn:Jy 205 (Afp N):=J5 (J4 [(243,Akp N),(244,Ako N)] []) A56 f205 N (Jw ⟨Aoi N,Aoh N,trivial⟩)
def vG:Sig:=.of [J8] [JY] (UY N)
def Aee:Jy 249 (vG N):=J5 (J4 [(250,xY N),(282,aP N),(281,Zn N)] []) A56 f249 N (Jw ⟨Aak N,uC N,XT N,trivial⟩)
def AiS:A55:=[A53 3 [],A53 18 [2,3,15,16]]
def AkU:Lk:=⟨[],[(18,⟨[(2,.c AB),(3,.c AO),(15,.i),(16,.c x64)],[(A4N,.box [Bc]),(A4P,.box [Bc])]⟩,[(0,⟨[],[]⟩)])]⟩
def Aab:Sig:=.of [Sq1,Sq1] [JY] (fun a=>VH N a.1 a.2)
def AfT:Jy 155 (Aab N):=J5 (J4 [(209,AdJ N)] AiS) AkU f155 N (Jw ⟨AiT N,trivial⟩)
def AkK:A55:=[A53 3 [6,7],(37,⟨[4,6,7],[],[],[(38144,A4K),(39680,A4K)],[]⟩),(42,⟨[6,7,38,39,40],[],[],[(44544,A4K)],[]⟩)]
def Anf:Lk:=⟨[(37,⟨[(4,.c AP),(6,.c x64),(7,.c (xo A4K))],[(A4Q,.box BH),(A4K,.arr 5 false Ar)]⟩)],[(42,⟨[(6,.i),(7,.c (xo A4K)),(38,.c (xo 42496)),(39,.i),(40,.c x64)],[(42496,.arr 3 false Aw),(A4K,.arr 5 false Ar)]⟩,[(0,⟨[(6,.i),(7,.c (xo A4K))],[(A4K,.arr 5 false Ar)]⟩)])]⟩
def jJ:Sig:=.of [J3] [J8,J3] (Ol N)
def pG:Jy 45 (jJ N):=J5 (J4 [(98,AdD N),(99,AiN N),(95,QM N)] AkK) Anf f45 N (Jw ⟨AiJ N,Anh N,Py N,trivial⟩)
def Apr:A55:=[A53 3 [],A53 30 [3,15,16,17]]
def Ar6:Lk:=⟨[],[(30,⟨[(3,.c (xo 36352)),(15,.i),(16,.i),(17,.c x64)],[(36352,.mp Au Aw)]⟩,[(0,⟨[],[]⟩)])]⟩
def xR:Sig:=.of [.cell false (.sl 147 Tq4)] [J3] (gV N)
def Aad:Jy 100 (xR N):=J5 (J4 [(162,Ag0 N),(163,yC N),(164,AgW N)] Apr) Ar6 f100 N (Jw ⟨Alc N,Aax N,Amg N,trivial⟩)
def WA (N:Nat):Alt:=.of [.cell false .str,.cell false (.int .i64)] [Xb,.cell false (.int .i64)] [.cell false .ptr,.cell false (.int .i64)] (fun a=>Un N a.1 a.2)
def Ze (N:Nat):Spec Tryz.prog 32 (WA N).1/\Spec Tryz.prog 32 (WA N).2.1:=Wu (C:=ctx Tryz.prog [(75,Pq N)] [] [(76,QU N)]) (L:=⟨[],[]⟩) (fn:=f32) (N:=N) (Jw ⟨TP N,trivial⟩ ⟨Um N,trivial⟩) (by kernel_rfl) (by kernel_rfl) (fun a=>by kernel_rfl)
def YV:Sig:=.of [Xb] [J3] (Qu N)
def gJ:Jy 35 (YV N):=J5 (J4 [(77,Uo N),(84,VR N)] []) A56 f35 N (Jw ⟨Vq N,gZ N,trivial⟩)
def tN:A55:=[(3,⟨[6],[([6],102,Tq0,A4L)],[],[(A4K,A4L)],[]⟩),(42,⟨[6,26,27,28],[([6],102,Tq0,A4K)],[],[(43776,A4K)],[]⟩)]
def xO:Lk:=⟨[],[(42,⟨[(6,.c (xo A4K)),(26,.i),(27,.i),(28,.c x64)],[(A4K,.arr 102 false Tq0)]⟩,[(0,⟨[(6,.c (xo A4L))],[(A4L,.arr 102 false Tq0)]⟩)])]⟩
def X0:Sig:=.of [RP] [.cell false (.sl 102 Tq0),J3] (Lp N)
def mP:Jy 141 (X0 N):=J5 (J4 [(139,QL N),(192,wV N),(193,WV N)] tN) xO f141 N (Jw ⟨Px N,Afq N,jO N,trivial⟩)
open Go.Proofs Go.Proofs.Tryz
def xN:A55:=[A53 3 [],A53 11 [0,13,14,15],A53 26 [0,13,14,15],A53 62 [0,4,13,14,15,41,42,43]]
def Aac:Lk:=⟨[],[(26,⟨[(0,.i),(13,.i),(14,.i),(15,.c x64)],[]⟩,[(0,⟨[],[]⟩)]),(62,⟨[(0,.i),(4,.c AP),(13,.i),(14,.i),(15,.i),(41,.i),(42,.i),(43,.c x64)],[(A4Q,.box [xs,x64,xs])]⟩,[(2,⟨[(0,.i),(13,.i),(14,.i),(15,.i)],[]⟩)])]⟩
def Y1:Sig:=.of [.cell false (.sl 102 Tq0)] [J3] (Np N)
def pR:Jy 150 (Y1 N):=J5 (J4 [(163,yC N),(205,Afp N)] xN) Aac f150 N (Jw ⟨Aax N,Akn N,trivial⟩)
def gX:Sig:=.of [J3,J8,JY] [JY] (fun a=>PM N a.1 a.2.1 a.2.2)
def Aag:Jy 207 (gX N):=J5 (J4 [(249,vG N),(250,xY N),(251,Ag6 N),(252,Aal N),(253,Aeg N),(254,Aaj N)] [] [] [] [] [11,14,15,18,21,22,26,29,30,33,36,37,41,44,45,48,51,52]) A56 f207 N (Jw ⟨Aee N,Aak N,Alk N,AfX N,Ajq N,AfW N,trivial⟩)
def XO:Sig:=.of [Sq1,Sq1] [JY] (fun a=>OL N a.1 a.2)
def Yg:Jy 92 (XO N):=J5 (J4 [(155,Aab N)] []) A56 f92 N (Jw ⟨AfT N,trivial⟩)
def Anl:A55:=[(3,⟨[5],[([5],9,Au,A4L)],[],[(A4K,A4L)],[]⟩),(26,⟨[5,17,18,19],[([5],9,Au,A4K)],[],[(41216,A4K)],[]⟩)]
def Apt:Lk:=⟨[],[(26,⟨[(5,.c (xo A4K)),(17,.i),(18,.i),(19,.c x64)],[(A4K,.arr 9 false Au)]⟩,[(0,⟨[(5,.c (xo A4L))],[(A4L,.arr 9 false Au)]⟩)])]⟩
def pY:Sig:=.of [.cell false (.sl 147 Tq4)] [J8,J3] (Zi N)
def uX:Jy 47 (pY N):=J5 (J4 [(100,xR N),(101,uZ N),(95,QM N)] Anl) Apt f47 N (Jw ⟨Aad N,AdQ N,Py N,trivial⟩)
def Abb:Sig:=.of [Xb] [J3,J3] (bK N)
def Acr:Jy 80 (Abb N):=J5 (J4 [(77,Uo N),(142,jI N)] []) A56 f80 N (Jw ⟨Vq N,pF N,trivial⟩)
def Ank:A55:=[(3,⟨[7],[([7],147,Tq4,A4L)],[],[(A4K,A4L)],[]⟩),(46,⟨[7,33,34,35],[([7],147,Tq4,A4K)],[],[(45568,A4K)],[]⟩)]
def Aps:Lk:=⟨[],[(46,⟨[(7,.c (xo A4K)),(33,.i),(34,.i),(35,.c x64)],[(A4K,.arr 147 false Tq4)]⟩,[(0,⟨[(7,.c (xo A4L))],[(A4L,.arr 147 false Tq4)]⟩)])]⟩
def pX:Sig:=.of [J8] [.cell false (.sl 147 Tq4),J3] (Zh N)
def uV:Jy 146 (pX N):=J5 (J4 [(138,YL N),(139,QL N),(198,uY N),(100,xR N)] Ank) Aps f146 N (Jw ⟨Ws N,Px N,AdP N,Aad N,trivial⟩)
def Aco:Sig:=.of [J8] [J3,J3] (dX N)
def Ahh:Jy 235 (Aco N):=J5 (J4 [(138,YL N),(142,jI N)] []) A56 f235 N (Jw ⟨Ws N,pF N,trivial⟩)
def gK:Sig:=.of [J8] [J8,J3] (QX N)
def zL:Jy 199 (gK N):=J5 (J4 [(33,NS N),(37,NQ N)] [] [(32,WA N)]) A56 f199 N (Jw ⟨NK N,NJ N,trivial⟩ ⟨Ze N,trivial⟩)
open Go.Proofs Go.Proofs.Tryz
def Xj (N:Nat):Alt:=.of [.cell false .str,.cell false (.int .i64)] [Akz,.cell false (.int .i64)] [.cell false .ptr,.cell false (.int .i64)] (fun a=>V6 N a.1 a.2)
def AcR (N:Nat):Spec Tryz.prog 107 (Xj N).1/\Spec Tryz.prog 107 (Xj N).2.1:=Wu (C:=ctx Tryz.prog [(170,Rf N)] [] [] [] [23]) (L:=⟨[],[]⟩) (fn:=f107) (N:=N) (Jw ⟨Ql N,trivial⟩) (by kernel_rfl) (by kernel_rfl) (fun a=>by kernel_rfl)
def Z5:Sig:=.of [J8,J3,J3,J8,J8] [J8] (fun a=>XX N a.1 a.2.1 a.2.2.1 a.2.2.2.1 a.2.2.2.2)
def iI:Jy 116 (Z5 N):=J5 (J4 [(177,AgF N),(172,eX N),(170,Rf N)] []) A56 f116 N (Jw ⟨Al4 N,dA N,Ql N,trivial⟩)
def Asa:A55:=[A53 3 [5],A53 10 [0,1,2,4,5,13]]
def Avl:Lk:=⟨[],[(10,⟨[(0,.i),(1,.i),(2,.i),(4,.i),(5,.c xs),(13,.c x64)],[]⟩,[(0,⟨[(5,.c xs)],[]⟩)])]⟩
def nD:Sig:=.of [J8,J3,J3,J3,J3,J8] [J8] (fun a=>dD N a.1 a.2.1 a.2.2.1 a.2.2.2.1 a.2.2.2.2.1 a.2.2.2.2.2)
def jX:Jy 175 (nD N):=J5 (J4 [(225,AbE N),(226,AhK N),(170,Rf N)] Asa) Avl f175 N (Jw ⟨yD N,AgI N,Ql N,trivial⟩)
def qX:Sig:=.of [J8,J3,Sq6] [J8] (fun a=>ZJ N a.1 a.2.1 a.2.2)
def vV:Jy 176 (qX N):=J5 (J4 [(225,AbE N),(224,AbF N),(170,Rf N)] []) A56 f176 N (Jw ⟨yD N,Ac3 N,Ql N,trivial⟩)
def qY:Sig:=.of [J8,J3,J3] [J8] (fun a=>ZK N a.1 a.2.1 a.2.2)
def vW:Jy 223 (qY N):=J5 (J4 [(225,AbE N),(226,AhK N),(170,Rf N)] []) A56 f223 N (Jw ⟨yD N,AgI N,Ql N,trivial⟩)
def Z4:Sig:=.of [RP,J3,J8] [J8] (fun a=>Sm N a.1 a.2.1 a.2.2)
def iH:Jy 115 (Z4 N):=J5 (J4 [(172,eX N),(170,Rf N)] []) A56 f115 N (Jw ⟨dA N,Ql N,trivial⟩)
def Aa9:A55:=[A53 53 [2,5]]
def AbR:Lk:=⟨[(53,⟨[(2,.c AB),(5,.c xb)],[(A4N,.box [x64,xs,Bc])]⟩)],[]⟩
def UJ:Sig:=.of [Sq2,JY] [J3] (fun a=>NG N a.1 a.2)
def WX:Jy 229 (UJ N):=J5 (J4 [(267,rV N),(268,rW N),(269,AeJ N),(270,wM N),(271,AcB N),(272,wK N),(120,Pj N)] Aa9 [] [] [] [11,15,16,19,23,24,28,32,33,36,40,41,45,49,50,53,57,58]) AbR f229 N (Jw ⟨AcY N,wL N,Ake N,AeN N,AhY N,AeI N,OZ N,trivial⟩)
open Go.Proofs Go.Proofs.Tryz
def AkR:A55:=[A53 3 [],A53 18 [11,12,13]]
def Ani:Lk:=⟨[],[(18,⟨[(11,.i),(12,.i),(13,.c x64)],[]⟩,[(0,⟨[],[]⟩)])]⟩
def Qw:Sig:=.of [Sq1] [J3] (MC N)
def PK:Jy 86 (Qw N):=J5 (J4 [(150,Y1 N)] AkR) Ani f86 N (Jw ⟨pR N,trivial⟩)
def Apb:A55:=[A53 3 [],A53 10 [2,4,9,10,11]]
def Ary:Lk:=⟨[],[(10,⟨[(2,.i),(4,.c AP),(9,.i),(10,.i),(11,.c x64)],[(A4Q,.box [Bc])]⟩,[(0,⟨[],[]⟩)])]⟩
def xM:Sig:=.of [.cell false (.sl 53 Tq3),Sq1,J3] [J3] (fun a=>gQ N a.1 a.2.1 a.2.2)
def zQ:Jy 56 (xM N):=J5 (J4 [(92,XO N)] Apb) Ary f56 N (Jw ⟨Yg N,trivial⟩)
def yN (N:Nat):Alt:=.of [.cell false .str,.cell false (.int .i64),.cell false (.int .i64)] [Aha,.cell false (.int .i64)] [.cell false .ptr,.cell false (.int .i64)] (fun a=>Afg N a.1 a.2.1 a.2.2)
def Aob (N:Nat):Spec Tryz.prog 51 (yN N).1/\Spec Tryz.prog 51 (yN N).2.1:=Wu (C:=ctx Tryz.prog [(108,QG N)] [] [(107,Xj N)]) (L:=⟨[],[]⟩) (fn:=f51) (N:=N) (Jw ⟨RU N,trivial⟩ ⟨AcR N,trivial⟩) (by kernel_rfl) (by kernel_rfl) (fun a=>by kernel_rfl)
def AaW:Sig:=.of [J8,J8] [J8,J3] (fun a=>Ul N a.1 a.2)
def Acn:Jy 12 (AaW N):=J5 (J4 [(50,Agt N)] []) A56 f12 N (Jw ⟨Ak9 N,trivial⟩)
def AnA:A55:=[A53 3 [0,2,9],(26,⟨[0,1,2,9,10],[([9],9,Au,A4K)],[],[(40960,A4K)],[]⟩)]
def Aql:Lk:=⟨[],[(26,⟨[(0,.i),(1,.i),(2,.i),(9,.c (xo A4K)),(10,.c x64)],[(A4K,.arr 9 false Au)]⟩,[(0,⟨[(0,.i),(2,.i),(9,.c (xo A4K))],[(A4K,.arr 9 false Au)]⟩)])]⟩
def Ae5:Sig:=.of [J8,J8,J3] [J8,J3] (fun a=>nC N a.1 a.2.1 a.2.2)
def AjL:Jy 178 (Ae5 N):=J5 (J4 [(222,ZI N),(223,qY N),(175,nD N),(176,qX N)] AnA) Aql f178 N (Jw ⟨iL N,vW N,jX N,vV N,trivial⟩)
def ArY:A55:=[A53 3 [13],(38,⟨[0,1,2,11,13,14],[([13],9,Au,A4K)],[],[(45056,A4K)],[]⟩)]
def Avj:Lk:=⟨[],[(38,⟨[(0,.i),(1,.i),(2,.i),(11,.i),(13,.c (xo A4K)),(14,.c x64)],[(A4K,.arr 9 false Au)]⟩,[(0,⟨[(13,.c (xo A4K))],[(A4K,.arr 9 false Au)]⟩)])]⟩
def AjM:Sig:=.of [J8,J8,J3,J8] [J8,J3] (fun a=>AbD N a.1 a.2.1 a.2.2.1 a.2.2.2)
def AnC:Jy 171 (AjM N):=J5 (J4 [(222,ZI N),(174,qV N),(223,qY N),(175,nD N),(224,AbF N)] ArY) Avj f171 N (Jw ⟨iL N,vU N,vW N,jX N,Ac3 N,trivial⟩)
def AlC:A55:=[A53 3 [0,1,13],(46,⟨[0,1,3,11,13,14],[([13],9,Au,A4K)],[],[(46336,A4K)],[]⟩)]
def AnB:Lk:=⟨[],[(46,⟨[(0,.i),(1,.i),(3,.i),(11,.i),(13,.c (xo A4K)),(14,.c x64)],[(A4K,.arr 9 false Au)]⟩,[(0,⟨[(0,.i),(1,.i),(13,.c (xo A4K))],[(A4K,.arr 9 false Au)]⟩)])]⟩
def Ac2:Sig:=.of [J8,J3,J8,J8] [J8,J3] (fun a=>fB N a.1 a.2.1 a.2.2.1 a.2.2.2)
def AhJ:Jy 114 (Ac2 N):=J5 (J4 [(173,ZH N),(174,qV N),(175,nD N),(176,qX N)] AlC) AnB f114 N (Jw ⟨iK N,vU N,jX N,vV N,trivial⟩)
def Adf:A55:=[A53 3 [],A53 18 [9,10,11]]
def AeX:Lk:=⟨[],[(18,⟨[(9,.i),(10,.i),(11,.c x64)],[]⟩,[(0,⟨[],[]⟩)])]⟩
def Wh:Sig:=.of [.cell false (.sl 66 Tq1)] [J3] (Ru N)
def YH:Jy 181 (Wh N):=J5 (J4 [(229,UJ N)] Adf) AeX f181 N (Jw ⟨WX N,trivial⟩)
open Go.Proofs Go.Proofs.Tryz
def WZ:Sig:=.of [.cell false (.sl 147 Tq4)] [J3] (Qp N)
def kH:Jy 186 (WZ N):=J5 (J4 [(231,lN N)] []) A56 f186 N (Jw ⟨AbW N,trivial⟩)
def AeT:Sig:=.of [J8,J8] [J8,J3] (fun a=>nO N a.1 a.2)
def Akh:Jy 22 (AeT N):=J5 (J4 [(70,AcE N),(65,Vl N),(69,Xp N)] []) A56 f22 N (Jw ⟨Aic N,TY N,ZY N,trivial⟩)
def Al2:A55:=[(3,⟨[3],[([3],123,Tq2,A4M)],[],[(A4K,A4M)],[]⟩),(14,⟨[0,3,4],[([3],123,Tq2,A4K)],[],[(41216,A4K)],[]⟩),(33,⟨[0,3,4,5],[([3],123,Tq2,A4L)],[(some A4R,3,Aq)],[(A4K,A4L)],[]⟩)]
def An2:Lk:=⟨[(33,⟨[(0,.c AL),(3,.c (xo A4L)),(4,.i),(5,.c AQ)],[(0,.box Bz),(A4R,.box [(xo 36608),x64,xb,Bc]),(36608,.arr 66 false Tq1),(A4L,.arr 123 false Tq2)]⟩)],[(14,⟨[(0,.c AL),(3,.c (xo A4K)),(4,.c x64)],[(0,.box Bz),(A4K,.arr 123 false Tq2)]⟩,[(0,⟨[(3,.c (xo A4M))],[(0,.box Bz),(A4M,.arr 123 false Tq2)]⟩)])]⟩
def Acx:Sig:=.of [oG] [.cell false (.sl 123 Tq2)] (eP N)
def Ah8:Jy 26 (Acx N):=J5 (J4 [(23,MH N),(25,bZ N),(15,U1 N)] Al2) An2 f26 N (Jw ⟨LU N,kZ N,Vw N,trivial⟩)
open Go.Proofs Go.Proofs.Tryz
def AcZ:A55:=[A53 3 [],A53 18 [2,3,15,16]]
def AeO:Lk:=⟨[],[(18,⟨[(2,.c AB),(3,.c AO),(15,.i),(16,.c x64)],[(A4N,.box [Bc]),(A4P,.box [Bc])]⟩,[(0,⟨[],[]⟩)])]⟩
def iU:Sig:=.of [Sq1,Sq1] [JY] (fun a=>Yr N a.1 a.2)
def AaA:Jy 137 (iU N):=J5 (J4 [(190,rZ N)] AcZ) AeO f137 N (Jw ⟨Adb N,trivial⟩)
def nM:A55:=[A53 3 [5],A53 26 [5,17,18,19],A53 45 [5,7,8,17,18,19]]
def sD:Lk:=⟨[(45,⟨[(5,.i),(7,.c AX),(8,.c xs),(17,.i),(18,.i),(19,.i)],[(34560,.box [xs,xb,xs])]⟩)],[(26,⟨[(5,.c xs),(17,.i),(18,.i),(19,.c x64)],[]⟩,[(0,⟨[(5,.c xs)],[]⟩)])]⟩
def Rt:Sig:=.of [.cell false (.sl 147 Tq4)] [J8,J3] (MI N)
def Uj:Jy 129 (Rt N):=J5 (J4 [(186,WZ N),(187,VY N),(31,LD N),(65,Vl N),(135,fF N)] nM) sD f129 N (Jw ⟨kH N,YB N,La N,TY N,dM N,trivial⟩)
open Go.Proofs Go.Proofs.Tryz
def TD:Sig:=.of [Sq1,Sq1] [JY] (fun a=>LK N a.1 a.2)
def UK:Jy 72 (TD N):=J5 (J4 [(137,iU N)] []) A56 f72 N (Jw ⟨AaA N,trivial⟩)
def YC:Sig:=.of [Sq2,JY] [J8,J3] (fun a=>P9 N a.1 a.2)
def rU:Jy 230 (YC N):=J5 (J4 [(229,UJ N),(62,We N),(31,LD N)] []) A56 f230 N (Jw ⟨WX N,YE N,La N,trivial⟩)
def wQ:Sig:=.of [J3,.cell false (.sl 147 Tq4)] [J8,J3] (fun a=>Vb N a.1 a.2)
def AeY:Jy 67 (wQ N):=J5 (J4 [(129,Rt N),(65,Vl N)] []) A56 f67 N (Jw ⟨Uj N,TY N,trivial⟩)
open Go.Proofs Go.Proofs.Tryz
def iY:Sig:=.of [Sq3] [J3] (Rw N)
def AaG:Jy 121 (iY N):=J5 (J4 [(180,lQ N),(181,Wh N)] []) A56 f121 N (Jw ⟨AbX N,YH N,trivial⟩)
def AbT:A55:=[A53 3 [],A53 18 [10,11,12]]
def Adc:Lk:=⟨[],[(18,⟨[(10,.i),(11,.i),(12,.c x64)],[]⟩,[(0,⟨[],[]⟩)])]⟩
def Vx:Sig:=.of [.cell false (.sl 123 Tq2)] [J3] (Pm N)
def XE:Jy 122 (Vx N):=J5 (J4 [(181,Wh N),(120,Pj N)] AbT [] [] [] [20,24,25,29,35,36]) Adc f122 N (Jw ⟨YH N,OZ N,trivial⟩)
def Ade:A55:=[A53 3 [],A53 66 [1,2,5,7]]
def AeW:Lk:=⟨[],[(66,⟨[(1,.i),(2,.c AB),(5,.c AQ),(7,.c x64)],[(A4N,.box Bj),(A4R,.box Bq)]⟩,[(0,⟨[],[]⟩)])]⟩
def iW:Sig:=.of [Sq3,J3] [J3] (fun a=>UM N a.1 a.2)
def AaF:Jy 123 (iW N):=J5 (J4 [(182,AaH N),(120,Pj N),(72,TD N)] Ade [] [] [] [24,28,29,33,34,38]) AeW f123 N (Jw ⟨Agm N,OZ N,UK N,trivial⟩)
def AcW:A55:=[A53 3 [4],A53 30 [4,15,16,17]]
def AeL:Lk:=⟨[],[(30,⟨[(4,.c xs),(15,.i),(16,.i),(17,.c x64)],[]⟩,[(0,⟨[(4,.c xs)],[]⟩)])]⟩
def VZ:Sig:=.of [.cell false (.sl 66 Tq1)] [J8,J3] (Ro N)
def YD:Jy 185 (VZ N):=J5 (J4 [(230,YC N)] AcW) AeL f185 N (Jw ⟨rU N,trivial⟩)
def AeR:A55:=[A53 3 [6],A53 10 [2,4,6,11,12,13]]
def Agk:Lk:=⟨[],[(10,⟨[(2,.i),(4,.c AP),(6,.c AV),(11,.i),(12,.i),(13,.c x64)],[(A4Q,.box [Bc]),(A4S,.box [A7,A7,A7,A7,(xo 34309)]),(34309,.Ko 103 false Aq)]⟩,[(0,⟨[(6,.c AV)],[(A4S,.box [A7,A7,A7,A7,(xo 34309)]),(34309,.Ko 103 false Aq)]⟩)])]⟩
def lM:Sig:=.of [Sq3,Sq1,J3] [AoF,JY] (fun a=>V8 N a.1 a.2.1 a.2.2)
def AbV:Jy 27 (lM N):=J5 (J4 [(72,TD N)] AeR) Agk f27 N (Jw ⟨UK N,trivial⟩)
open Go.Proofs Go.Proofs.Tryz
def Xr:Sig:=.of [.cell false (.sl 66 Tq1)] [J8] (Ny N)
def aB:Jy 130 (Xr N):=J5 (J4 [(185,VZ N),(31,LD N)] []) A56 f130 N (Jw ⟨YD N,La N,trivial⟩)
def ApP:A55:=[(7,⟨[2,3],[],[],[(A5a,A5p),(A4V,A5p)],[A5p]⟩),A53 17 [0,2,3],A53 25 [0,2,3],A53 33 [0,2,3],(69,⟨[0,2,3],[],[(some A4P,9,Tq1)],[],[]⟩),(77,⟨[0,2,3],[],[(some A4P,14,Tq2)],[],[]⟩),(82,⟨[0,2,3,4],[],[],[(A5a,A4V),(69632,A4V),(A5c,A4V)],[A4V]⟩),(101,⟨[0,2,3,4,5],[],[],[(A5a,A5k),(A4V,A5k)],[A5k]⟩),(109,⟨[0,2,3,4,5],[],[],[(A5a,A4U),(A5k,A4U)],[A4U]⟩),(117,⟨[0,2,3,4,5],[],[],[(A5a,A5c),(A4U,A5c)],[A5c]⟩)]
def ArP:Lk:=⟨[(17,⟨[(0,.c AL),(2,.c AB),(3,.c AO)],[(0,.box Bz),(A4N,.box Bl),(A5g,.Ko 103 false Aq),(A5h,.Ko 66 false Tq1),(A5i,.Ko 123 false Tq2),(A5j,.Ko 53 false Tq3),(A4P,.box [A8,A8,Bc,x64,x64,x64,(.c (.int .i64 (-1))),A8,AA,(xo 33646),AA,AA,A7,AA,(xo A5o),(xo A5a),A8]),(33646,.Ko 66 false Tq1),(A5o,.Ko 123 false Tq2),(A5a,.Ko 53 false Tq3)]⟩),(25,⟨[(0,.c AL),(2,.c AB),(3,.c AO)],[(0,.box Bz),(A4N,.box Bl),(A5g,.Ko 103 false Aq),(A5h,.Ko 66 false Tq1),(A5i,.Ko 123 false Tq2),(A5j,.Ko 53 false Tq3),(A4P,.box [A8,A8,Bc,x64,x64,x64,x64,A8,AA,(xo 33646),AA,AA,A7,AA,(xo A5o),(xo A5a),A8]),(33646,.Ko 66 false Tq1),(A5o,.Ko 123 false Tq2),(A5a,.Ko 53 false Tq3)]⟩),(33,⟨[(0,.c AL),(2,.c AB),(3,.c AO)],[(0,.box Bz),(A4N,.box Bl),(A5g,.Ko 103 false Aq),(A5h,.Ko 66 false Tq1),(A5i,.Ko 123 false Tq2),(A5j,.Ko 53 false Tq3),(A4P,.box [A8,A8,Bc,x64,x64,x64,x64,xs,AA,(xo 33646),AA,AA,A7,AA,(xo A5o),(xo A5a),A8]),(33646,.Ko 66 false Tq1),(A5o,.Ko 123 false Tq2),(A5a,.Ko 53 false Tq3)]⟩),(69,⟨[(0,.c AL),(2,.c AB),(3,.c AO)],[(0,.box Bz),(A4N,.box Bl),(A5g,.Ko 103 false Aq),(A5h,.Ko 66 false Tq1),(A5i,.Ko 123 false Tq2),(A5j,.Ko 53 false Tq3),(A4P,.box [A8,A8,Bc,x64,x64,x64,x64,xs,xb,Bd,xb,xb,x64,xb,(xo A5o),(xo A5a),A8]),(A5o,.Ko 123 false Tq2),(A5a,.Ko 53 false Tq3)]⟩),(77,⟨[(0,.c AL),(2,.c AB),(3,.c AO)],[(0,.box Bz),(A4N,.box Bl),(A5g,.Ko 103 false Aq),(A5h,.Ko 66 false Tq1),(A5i,.Ko 123 false Tq2),(A5j,.Ko 53 false Tq3),(A4P,.box [A8,A8,Bc,x64,x64,x64,x64,xs,xb,Bd,xb,xb,x64,xb,Be,(xo A5a),A8]),(A5a,.Ko 53 false Tq3)]⟩),(101,⟨[(0,.c AL),(2,.c AB),(3,.c AO),(4,.i),(5,.c AQ)],[(0,.box Bz),(A4N,.box Bl),(A5g,.Ko 103 false Aq),(A5h,.Ko 66 false Tq1),(A5i,.Ko 123 false Tq2),(A5j,.Ko 53 false Tq3),(A4P,.box [A8,A8,Bc,x64,x64,x64,x64,xs,xb,Bd,xb,xb,x64,xb,Be,(xo A5k),A8]),(A4R,.box Bq),(A5k,.arr 53 true Tq3)]⟩),(109,⟨[(0,.c AL),(2,.c AB),(3,.c AO),(4,.i),(5,.c AQ)],[(0,.box Bz),(A4N,.box Bl),(A5g,.Ko 103 false Aq),(A5h,.Ko 66 false Tq1),(A5i,.Ko 123 false Tq2),(A5j,.Ko 53 false Tq3),(A4P,.box [A8,A8,Bc,x64,x64,x64,x64,xs,xb,Bd,xb,xb,x64,xb,Be,(xo A4U),A8]),(A4R,.box Bq),(A4U,.arr 53 true Tq3)]⟩),(117,⟨[(0,.c AL),(2,.c AB),(3,.c AO),(4,.i),(5,.c AQ)],[(0,.box Bz),(A4N,.box Bl),(A5g,.Ko 103 false Aq),(A5h,.Ko 66 false Tq1),(A5i,.Ko 123 false Tq2),(A5j,.Ko 53 false Tq3),(A4P,.box [A8,A8,Bc,x64,x64,x64,x64,xs,xb,Bd,xb,xb,x64,xb,Be,(xo A5c),A8]),(A4R,.box Bq),(A5c,.arr 53 true Tq3)]⟩)],[(82,⟨[(0,.c AL),(2,.c AB),(3,.c AO),(4,.c x64)],[(0,.box Bz),(A4N,.box Bl),(A5g,.Ko 103 false Aq),(A5h,.Ko 66 false Tq1),(A5i,.Ko 123 false Tq2),(A5j,.Ko 53 false Tq3),(A4P,.box [A8,A8,Bc,x64,x64,x64,x64,xs,xb,Bd,xb,xb,x64,xb,Be,(xo A4V),A8]),(A4V,.arr 53 true Tq3)]⟩,[(1,⟨[(2,.c AB),(3,.c AO)],[(0,.box Bz),(A4N,.box Bl),(A5g,.Ko 103 false Aq),(A5h,.Ko 66 false Tq1),(A5i,.Ko 123 false Tq2),(A5j,.Ko 53 false Tq3),(A4P,.box [A8,A8,Bc,x64,x64,x64,x64,xs,xb,Bd,xb,xb,x64,xb,Be,(xo A5p),A8]),(A5p,.arr 53 true Tq3)]⟩)])]⟩
def AgA:Sig:=.of [oG] [Sq3] (vN N)
def Alv:Jy 7 (AgA N):=J5 (J4 [(23,MH N),(15,U1 N),(24,AgD N),(25,bZ N),(26,Acx N),(27,lM N)] ApP) ArP f7 N (Jw ⟨LU N,Vw N,Al1 N,kZ N,Ah8 N,AbV N,trivial⟩)
open Go.Proofs Go.Proofs.Tryz
def UX:Sig:=.of [Sq2,JY] [J3] (fun a=>NI N a.1 a.2)
def Ut:Jy 151 (UX N):=J5 (J4 [(206,Ajh N),(86,Qw N),(207,gX N)] []) A56 f151 N (Jw ⟨Ann N,PK N,Aag N,trivial⟩)
def oU:Sig:=.of [Sq3,J3] [J3] (fun a=>Wy N a.1 a.2)
def AcJ:Jy 90 (oU N):=J5 (J4 [(87,Aba N),(153,Ad8 N),(86,Qw N),(154,zN N),(92,XO N),(56,xM N)] []) A56 f90 N (Jw ⟨Acp N,AiI N,PK N,AfN N,Yg N,zQ N,trivial⟩)
def AiR:A55:=[(3,⟨[5],[([5],9,Au,A4O)],[],[(A4K,A4O)],[]⟩),(11,⟨[5,8,21,22,23],[([8],9,Au,A4M),([5],9,Au,A5d)],[],[(A4L,A4M),(A4W,A5d)],[]⟩),(26,⟨[5,21,22,23],[([5],9,Au,A4K)],[],[(47872,A4K)],[]⟩),(42,⟨[5,8,21,22,23,27,28,29],[([8],9,Au,A4L),([5],9,Au,A4W)],[],[(44032,A4L),(A4K,A4W)],[]⟩)]
def AkT:Lk:=⟨[],[(26,⟨[(5,.c (xo A4K)),(21,.i),(22,.i),(23,.c x64)],[(A4K,.arr 9 false Au)]⟩,[(0,⟨[(5,.c (xo A4O))],[(A4O,.arr 9 false Au)]⟩)]),(42,⟨[(5,.c (xo A4W)),(8,.c (xo A4L)),(21,.i),(22,.i),(23,.i),(27,.i),(28,.i),(29,.c x64)],[(A4L,.arr 9 false Au),(A4W,.arr 9 false Au)]⟩,[(2,⟨[(5,.c (xo A5d)),(8,.c (xo A4M)),(21,.i),(22,.i),(23,.i)],[(A4M,.arr 9 false Au),(A5d,.arr 9 false Au)]⟩)])]⟩
def bT:Sig:=.of [Sq1] [J8,J3] (QZ N)
def kW:Jy 44 (bT N):=J5 (J4 [(86,Qw N),(96,WW N),(97,yT N),(95,QM N)] AiR) AkT f44 N (Jw ⟨PK N,jP N,Amh N,Py N,trivial⟩)
def AiQ:A55:=[(3,⟨[2,4,8],[],[],[(34817,A4L),(A4K,A4L)],[]⟩),(50,⟨[2,4,8,37,38,39],[],[],[(34817,A4K),(47104,A4K)],[]⟩)]
def AkS:Lk:=⟨[],[(50,⟨[(2,.c AB),(4,.c AP),(8,.c AY),(37,.i),(38,.i),(39,.c x64)],[(A4N,.box BC),(A4X,.Ko 103 false Aq),(A4Q,.box [(xo A5e)]),(A5e,.Ko 103 false Aq),(A4Y,.box [(xo A4K)]),(A4K,.arr 103 false Aq)]⟩,[(0,⟨[(2,.c AB),(4,.c AP),(8,.c AY)],[(A4N,.box BC),(A4X,.Ko 103 false Aq),(A4Q,.box [(xo A5e)]),(A5e,.Ko 103 false Aq),(A4Y,.box [(xo A4L)]),(A4L,.arr 103 false Aq)]⟩)])]⟩
def bQ:Sig:=.of [J8] [Sq1,J3] (QY N)
def kV:Jy 79 (bQ N):=J5 (J4 [(138,YL N),(139,QL N),(141,X0 N),(86,Qw N)] AiQ) AkS f79 N (Jw ⟨Ws N,Px N,mP N,PK N,trivial⟩)
def sK (N:Nat):Alt:=.of [.cell false .str,.cell false (.int .i64)] [Aha,.cell false (.int .i64)] [.cell false .ptr,.cell false (.int .i64)] (fun a=>aI N a.1 a.2)
def Amb (N:Nat):Spec Tryz.prog 13 (sK N).1/\Spec Tryz.prog 13 (sK N).2.1:=Wu (C:=ctx Tryz.prog [] [] [(51,yN N)]) (L:=⟨[],[]⟩) (fn:=f13) (N:=N) (Jw trivial ⟨Aob N,trivial⟩) (by kernel_rfl) (by kernel_rfl) (fun a=>by kernel_rfl)
def AcT:A55:=[(3,⟨[0,2],[([2],9,Au,A4L)],[],[(A4K,A4L)],[]⟩),(11,⟨[],[],[],[(44032,A4V),(A4M,A4V)],[]⟩),(14,⟨[0,2,3],[([2],9,Au,A4K)],[],[(A5m,A4K)],[]⟩),(19,⟨[0,6,7],[([7],9,Au,A4T)],[],[(44032,1016400),(A4O,A4T),(A5q,1016400)],[]⟩),(38,⟨[0,2,6],[],[],[(44032,A4M),(56576,A4M),(A4T,A4L)],[]⟩),(54,⟨[0,2,6,7,8],[([7],9,Au,A4O)],[],[(44032,A5q),(54016,A4O),(A4M,A5q)],[]⟩)]
def Aev:Lk:=⟨[],[(14,⟨[(0,.c AL),(2,.c (xo A4K)),(3,.c x64)],[(0,.box BA),(A4K,.arr 9 false Au)]⟩,[(0,⟨[(0,.c AL),(2,.c (xo A4L))],[(0,.box BA),(A4L,.arr 9 false Au)]⟩)]),(38,⟨[(0,.c AL),(2,.c (xo A4L)),(6,.c x64)],[(0,.box [(xo A4M),xs,xs,x64]),(A4L,.arr 9 true Au),(A4M,.arr 39 false (.sl 9 Au .nil))]⟩,[(2,⟨[],[(0,.box [(xo A4V),xs,xs,x64]),(A4V,.arr 39 false (.sl 9 Au .nil))]⟩)]),(54,⟨[(0,.c AL),(2,.c (xo A4L)),(6,.i),(7,.c (xo A4O)),(8,.c x64)],[(0,.box [(xo A5q),xs,xs,x64]),(A4L,.arr 9 true Au),(A4O,.arr 9 false Au),(A5q,.arr 39 false (.sl 9 Au .nil))]⟩,[(4,⟨[(0,.c AL),(6,.i),(7,.c (xo A4T))],[(0,.box [(xo 1016400),xs,xs,x64]),(A4T,.arr 9 false Au),(1016400,.arr 39 false (.sl 9 Au .nil))]⟩)])]⟩
def iF:Sig:=.of [Akz] [] (O5 N)
def Aav:Jy 118 (iF N):=J5 (J4 [(178,Ae5 N),(116,Z5 N)] AcT) Aev f118 N (Jw ⟨AjL N,iI N,trivial⟩)
def AiB:Sig:=.of [Sq3,Sq1,J3] [AoF,JY] (fun a=>oP N a.1 a.2.1 a.2.2)
def Anb:Jy 17 (AiB N):=J5 (J4 [(56,xM N),(57,bJ N)] []) A56 f17 N (Jw ⟨zQ N,kR N,trivial⟩)
def AhC:A55:=[A53 3 [3,10],A53 58 [3,10,12,13,14],A53 61 [3,10,12,13,14]]
def AjD:Lk:=⟨[(61,⟨[(3,.c AO),(10,.c xs),(12,.i),(13,.i),(14,.i)],[(A4P,.box BG)]⟩)],[(58,⟨[(3,.c AO),(10,.c xs),(12,.i),(13,.c x64),(14,.c x64)],[(A4P,.box BG)]⟩,[(0,⟨[(3,.c AO),(10,.c xs)],[(A4P,.box BG)]⟩)])]⟩
def vS:Sig:=.of [RP,J8,J8] [J3] (fun a=>XW N a.1 a.2.1 a.2.2)
def Aew:Jy 58 (vS N):=J5 (J4 [(112,Aat N),(113,Acy N),(115,Z4 N),(114,Ac2 N),(116,Z5 N)] AhC) AjD f58 N (Jw ⟨AfZ N,AhB N,iH N,AhJ N,iI N,trivial⟩)
open Go.Proofs Go.Proofs.Tryz
def AfK:A55:=[A53 7 [],A53 21 [3,34],A53 46 [66,67,68]]
def Ahf:Lk:=⟨[(21,⟨[(3,.c AO),(34,.c xb)],[(A4P,.box [Bd,xb,xb,x64,xb])]⟩)],[(46,⟨[(66,.i),(67,.i),(68,.c x64)],[]⟩,[(1,⟨[],[]⟩)])]⟩
def oV:Sig:=.of [Sq3] [J3] (W9 N)
def AcK:Jy 88 (oV N):=J5 (J4 [(151,UX N)] AfK [] [] [] [14,18,19,23,24,28,29,33,44,46,49,52,53,54]) Ahf f88 N (Jw ⟨Ut N,trivial⟩)
def zD:A55:=[A53 3 [],A53 10 [6,7,8]]
def AaT:Lk:=⟨[],[(10,⟨[(6,.i),(7,.i),(8,.c x64)],[]⟩,[(0,⟨[],[]⟩)])]⟩
def YR:Sig:=.of [.cell false (.sl 66 Tq1)] [J3] (O9 N)
def sZ:Jy 208 (YR N):=J5 (J4 [(151,UX N)] zD) AaT f208 N (Jw ⟨Ut N,trivial⟩)
def WH:Sig:=.of [Sq2,JY] [J8,J3] (fun a=>NC N a.1 a.2)
def Xh:Jy 93 (WH N):=J5 (J4 [(151,UX N),(95,QM N),(44,bT N)] []) A56 f93 N (Jw ⟨Ut N,Py N,kW N,trivial⟩)
def Ajg:A55:=[A53 29 [1,2,4,6,11,13],(53,⟨[1,4,6],[],[(some A4S,2,Aq)],[],[]⟩)]
def Alh:Lk:=⟨[(29,⟨[(1,.i),(2,.c AB),(4,.c AP),(6,.c AV),(11,.i),(13,.c xb)],[(A4N,.box BG),(A4Q,.box [A7,A8,(xo 33795)]),(33795,.Ko 103 false Aq),(A4S,.box [A7,A8,(xo 34307)]),(34307,.Ko 103 false Aq)]⟩),(53,⟨[(1,.i),(4,.c AP),(6,.c AV)],[(A4Q,.box [A7,A8,(xo 33795)]),(33795,.Ko 103 false Aq),(A4S,.box [x64,xs,Bc])]⟩)],[]⟩
def Aaf:Sig:=.of [RP,JY] [Sq2,J3] (fun a=>OW N a.1 a.2)
def AfU:Jy 276 (Aaf N):=J5 (J4 [(79,bQ N),(151,UX N)] Ajg) Alh f276 N (Jw ⟨kV N,Ut N,trivial⟩)
def Xk:Sig:=.of [Akz] [RP] (SQ N)
def Zz:Jy 60 (Xk N):=J5 (J4 [(117,RH N),(118,iF N),(119,aV N)] []) A56 f60 N (Jw ⟨Tu N,Aav N,yB N,trivial⟩)
def Ad4:Sig:=.of [Sq3,RP] [J3] (fun a=>YU N a.1 a.2)
def AiC:Jy 18 (Ad4 N):=J5 (J4 [(58,vS N)] []) A56 f18 N (Jw ⟨Aew N,trivial⟩)
def AeQ:A55:=[A53 3 [],A53 94 [1,104,105]]
def Agj:Lk:=⟨[],[(94,⟨[(1,.c AU),(104,.i),(105,.c x64)],[(A4Z,.box Bj)]⟩,[(0,⟨[],[]⟩)])]⟩
def lL:Sig:=.of [Sq3] [J3] (V7 N)
def AbS:Jy 61 (lL N):=J5 (J4 [(120,Pj N),(121,iY N),(122,Vx N),(123,iW N)] AeQ [] [] [] [22,26,27,31,32,36,37,43,47,51,52,56,57,61,62,66,72,73]) Agj f61 N (Jw ⟨OZ N,AaG N,XE N,AaF N,trivial⟩)
def Xq:Sig:=.of [Sq1] [J8] (Pg N)
def aA:Jy 128 (Xq N):=J5 (J4 [(185,VZ N)] []) A56 f128 N (Jw ⟨YD N,trivial⟩)
open Go.Proofs Go.Proofs.Tryz
def zH:A55:=[A53 13 [1,4]]
def AaU:Lk:=⟨[(13,⟨[(1,.c AU),(4,.c xb)],[(A4Z,.box BK)]⟩)],[]⟩
def YS:Sig:=.of [Sq4] [J3] (OA N)
def tC:Jy 152 (YS N):=J5 (J4 [(208,YR N),(86,Qw N)] zH) AaU f152 N (Jw ⟨sZ N,PK N,trivial⟩)
def AiG:A55:=[(17,⟨[0,4,5,7],[([7],147,Tq4,A4K)],[],[(38400,A4K)],[]⟩),(25,⟨[0,4,5,7],[],[],[(A5l,A4L),(A4K,A4L)],[]⟩),(37,⟨[0,4,7],[],[],[(47360,A4M),(A4L,A4M)],[]⟩),A53 49 [0,4,9]]
def AkH:Lk:=⟨[(17,⟨[(0,.c AL),(4,.c AP),(5,.c AQ),(7,.c (xo A4K))],[(0,.box [xb]),(A4Q,.box Bq),(A4R,.box [Bc]),(A4K,.arr 147 false Tq4)]⟩),(25,⟨[(0,.c AL),(4,.c AP),(5,.c AQ),(7,.c (xo A4L))],[(0,.box [xb]),(A4Q,.box Bq),(A4R,.box [Bc]),(A4L,.arr 147 false Tq4)]⟩),(37,⟨[(0,.c AL),(4,.c AP),(7,.c (xo A4M))],[(0,.box [xb]),(A4Q,.box Bq),(A4M,.arr 147 false Tq4)]⟩),(49,⟨[(0,.c AL),(4,.c AP),(9,.c xs)],[(0,.box [xb]),(A4Q,.box Bq)]⟩)],[]⟩
def zS:Sig:=.of [.box [(false,.bool)],AoF,Sq1] [J8] (fun a=>Za N a.1 a.2.1 a.2.2)
def AfO:Jy 39 (zS N):=J5 (J4 [(91,Xo N),(46,LX N),(45,jJ N),(43,Nl N),(92,XO N),(93,WH N),(40,Oy N),(47,pY N),(41,Ur N)] AiG) AkH f39 N (Jw ⟨ZP N,LH N,pG N,Nh N,Yg N,Xh N,Og N,uX N,Vs N,trivial⟩)
def AcN:A55:=[A53 3 [5],A53 26 [5,16,17,18]]
def Aea:Lk:=⟨[],[(26,⟨[(5,.c xs),(16,.i),(17,.i),(18,.c x64)],[]⟩,[(0,⟨[(5,.c xs)],[]⟩)])]⟩
def VK:Sig:=.of [.cell false (.sl 66 Tq1)] [J8,J3] (PL N)
def Y5:Jy 166 (VK N):=J5 (J4 [(220,jR N),(93,WH N)] AcN) Aea f166 N (Jw ⟨qA N,Xh N,trivial⟩)
def AcM:A55:=[(3,⟨[7],[([7],66,Tq1,A4L)],[],[(A4K,A4L)],[]⟩),(38,⟨[7,26,27,28],[([7],66,Tq1,A4K)],[],[(43776,A4K)],[]⟩)]
def AdZ:Lk:=⟨[],[(38,⟨[(7,.c (xo A4K)),(26,.i),(27,.i),(28,.c x64)],[(A4K,.arr 66 false Tq1)]⟩,[(0,⟨[(7,.c (xo A4L))],[(A4L,.arr 66 false Tq1)]⟩)])]⟩
def SL:Sig:=.of [J8] [.cell false (.sl 66 Tq1),J3] (L9 N)
def TR:Jy 238 (SL N):=J5 (J4 [(139,QL N),(220,jR N),(276,Aaf N)] AcM) AdZ f238 N (Jw ⟨Px N,qA N,AfU N,trivial⟩)
def AcS:A55:=[A53 3 [10],A53 42 [0,10,11,12]]
def Aeu:Lk:=⟨[],[(42,⟨[(0,.c AL),(10,.c xs),(11,.c x64),(12,.c x64)],[(0,.box BA)]⟩,[(0,⟨[(10,.c xs)],[(0,.box BA)]⟩)])]⟩
def iE:Sig:=.of [Akz,J3,J8] [J8,J3] (fun a=>UB N a.1 a.2.1 a.2.2)
def Aau:Jy 111 (iE N):=J5 (J4 [(117,RH N),(108,QG N),(60,Xk N),(115,Z4 N),(171,AjM N),(172,eX N)] AcS [] [] [] [] [] [(60,[(0,1),(0,2),(0,3)])]) Aeu f111 N (Jw ⟨Tu N,RU N,Zz N,iH N,AnC N,dA N,trivial⟩)
def aX:Sig:=.of [Aha] [RP] (Q9 N)
def yO:Jy 19 (aX N):=J5 (J4 [(59,QK N),(60,Xk N)] [] [] [] [] [] [] [(60,[(0,1),(0,2),(0,3)])]) A56 f19 N (Jw ⟨RX N,Zz N,trivial⟩)
def AlY:A55:=[(17,⟨[2,3,5],[([5],147,Tq4,A4K)],[],[(37888,A4K)],[]⟩),(29,⟨[2,3,5],[],[],[(41472,A4L),(A4K,A4L)],[]⟩),(37,⟨[2,5],[],[],[(45056,A4M),(A4L,A4M)],[]⟩),A53 49 [2,8]]
def Aoa:Lk:=⟨[(17,⟨[(2,.c AB),(3,.c AO),(5,.c (xo A4K))],[(A4N,.box Bq),(A4P,.box [Bc]),(A4K,.arr 147 false Tq4)]⟩),(29,⟨[(2,.c AB),(3,.c AO),(5,.c (xo A4L))],[(A4N,.box Bq),(A4P,.box [Bc]),(A4L,.arr 147 false Tq4)]⟩),(37,⟨[(2,.c AB),(5,.c (xo A4M))],[(A4N,.box Bq),(A4M,.arr 147 false Tq4)]⟩),(49,⟨[(2,.c AB),(8,.c xs)],[(A4N,.box Bq)]⟩)],[]⟩
def AcD:Sig:=.of [AoF,Sq1] [J8] (fun a=>fH N a.1 a.2)
def Aib:Jy 64 (AcD N):=J5 (J4 [(68,WR N),(63,VX N),(72,TD N),(128,Xq N),(31,LD N),(129,Rt N)] AlY) Aoa f64 N (Jw ⟨Xt N,Y9 N,UK N,aA N,La N,Uj N,trivial⟩)
def AaE:A55:=[A53 3 [5],A53 34 [5,17,18,19],A53 53 [5,7,8,17,18,19]]
def AbU:Lk:=⟨[(53,⟨[(5,.i),(7,.c AX),(8,.c xs),(17,.i),(18,.i),(19,.i)],[(34560,.box BK)]⟩)],[(34,⟨[(5,.c xs),(17,.i),(18,.i),(19,.c x64)],[]⟩,[(0,⟨[(5,.c xs)],[]⟩)])]⟩
def ZZ:Sig:=.of [.cell false (.sl 123 Tq2)] [J8,J3] (Qa N)
def tY:Jy 133 (ZZ N):=J5 (J4 [(122,Vx N),(128,Xq N),(31,LD N),(130,Xr N),(132,kJ N),(65,Vl N)] AaE) AbU f133 N (Jw ⟨XE N,aA N,La N,aB N,sG N,TY N,trivial⟩)
open Go.Proofs Go.Proofs.Tryz
def xC:A55:=[A53 3 [],A53 18 [9,10,11]]
def zB:Lk:=⟨[],[(18,⟨[(9,.i),(10,.i),(11,.c x64)],[]⟩,[(0,⟨[],[]⟩)])]⟩
def Qi:Sig:=.of [.cell false (.sl 123 Tq2)] [J3] (MM N)
def QW:Jy 89 (Qi N):=J5 (J4 [(152,YS N)] xC) zB f89 N (Jw ⟨tC N,trivial⟩)
def AiH:A55:=[A53 17 [0,3,5,6],A53 25 [0,3,5,6]]
def AkI:Lk:=⟨[(17,⟨[(0,.c AL),(3,.c AO),(5,.c xs),(6,.i)],[(0,.box [xb]),(A4P,.box [Bd,xb,xb,x64,xb])]⟩),(25,⟨[(0,.c AL),(3,.c AO),(5,.i),(6,.c xs)],[(0,.box [xb]),(A4P,.box [Bd,xb,xb,x64,xb])]⟩)],[]⟩
def zT:Sig:=.of [.box [(false,.bool)],Ayn] [J8] (fun a=>Zb N a.1 a.2)
def AfP:Jy 102 (zT N):=J5 (J4 [(166,VK N),(43,Nl N),(46,LX N),(167,ZO N),(168,kU N),(40,Oy N)] AiH) AkI f102 N (Jw ⟨Y5 N,Nh N,LH N,iP N,Abf N,Og N,trivial⟩)
def uM:Sig:=.of [J8] [Sq1,J3] (RZ N)
def Ad7:Jy 236 (uM N):=J5 (J4 [(75,Pq N),(238,SL N)] []) A56 f236 N (Jw ⟨TP N,TR N,trivial⟩)
def AiF:A55:=[(53,⟨[2,4,5,6],[],[(some A4R,0,Tq1)],[],[]⟩),A53 105 [2,4,5,6]]
def AkG:Lk:=⟨[(53,⟨[(2,.c AB),(4,.c AP),(5,.c AQ),(6,.c (.c (.ptr 36864 0)))],[(A4N,.box [(xo A4X),AA,AA,A7,AA]),(A4X,.Ko 66 false Tq1),(A4Q,.box [(xo A5e),AA,AA,A7,AA]),(A5e,.Ko 66 false Tq1),(A4R,.box [Bd,AA,AA,A7,AA]),(36864,.box [Bi])]⟩),(105,⟨[(2,.c AB),(4,.c AP),(5,.c AQ),(6,.c (.c (.ptr 36864 0)))],[(A4N,.box [(xo A4X),AA,AA,A7,AA]),(A4X,.Ko 66 false Tq1),(A4Q,.box [(xo A5e),AA,AA,A7,AA]),(A5e,.Ko 66 false Tq1),(A4R,.box [Bd,xb,xb,x64,AA]),(36864,.box [Bi])]⟩)],[]⟩
def zM:Sig:=.of [J8] [Ayn,J3] (YW N)
def AfM:Jy 201 (zM N):=J5 (J4 [(81,PH N),(75,Pq N),(238,SL N),(239,kT N),(240,rD N),(37,NQ N)] AiF [(32,WA N)]) AkG f201 N (Jw ⟨P7 N,TP N,TR N,Abe N,vZ N,NJ N,trivial⟩ ⟨Ze N,trivial⟩)
def xH:A55:=[(45,⟨[0,2,4,5],[],[(some A4R,0,Tq1)],[],[]⟩),A53 73 [0,2,4,5],(105,⟨[0,2,4,5],[],[(some A4R,3,Aq)],[],[]⟩)]
def zI:Lk:=⟨[(45,⟨[(0,.c AL),(2,.c AB),(4,.c AP),(5,.c AQ)],[(0,.box [Bi]),(A4N,.box BD),(A4X,.Ko 66 false Tq1),(33284,.Ko 103 false Aq),(A4Q,.box BF),(A5e,.Ko 66 false Tq1),(33796,.Ko 103 false Aq),(A4R,.box [Bd,A7,AA,(xo 34052)]),(34052,.Ko 103 false Aq)]⟩),(73,⟨[(0,.c AL),(2,.c AB),(4,.c AP),(5,.c AQ)],[(0,.box [Bi]),(A4N,.box BD),(A4X,.Ko 66 false Tq1),(33284,.Ko 103 false Aq),(A4Q,.box BF),(A5e,.Ko 66 false Tq1),(33796,.Ko 103 false Aq),(A4R,.box [Bd,x64,AA,(xo 34052)]),(34052,.Ko 103 false Aq)]⟩),(105,⟨[(0,.c AL),(2,.c AB),(4,.c AP),(5,.c AQ)],[(0,.box [Bi]),(A4N,.box BD),(A4X,.Ko 66 false Tq1),(33284,.Ko 103 false Aq),(A4Q,.box BF),(A5e,.Ko 66 false Tq1),(33796,.Ko 103 false Aq),(A4R,.box BK)]⟩)],[]⟩
def Yx:Sig:=.of [Xb] [Sq4,J3] (Oe N)
def oN:Jy 241 (Yx N):=J5 (J4 [(81,PH N),(75,Pq N),(238,SL N),(240,rD N),(37,NQ N)] xH) zI f241 N (Jw ⟨P7 N,TP N,TR N,vZ N,NJ N,trivial⟩)
def aK:Sig:=.of [Aha,J8] [J8,J3] (fun a=>Qb N a.1 a.2)
def uB:Jy 55 (aK N):=J5 (J4 [(59,QK N),(110,aJ N),(111,iE N)] []) A56 f55 N (Jw ⟨RX N,uA N,Aau N,trivial⟩)
def tZ:A55:=[(17,⟨[1,4],[([4],147,Tq4,A4K)],[],[(37888,A4K)],[]⟩),(29,⟨[1,4],[],[],[(39680,A4L),(42240,A4L)],[]⟩),(41,⟨[1,4],[],[],[(49664,A4M),(A4L,A4M)],[]⟩)]
def yK:Lk:=⟨[(17,⟨[(1,.c AU),(4,.c (xo A4K))],[(A4Z,.box Bj),(A4K,.arr 147 false Tq4)]⟩),(29,⟨[(1,.c AU),(4,.c (xo A4L))],[(A4Z,.box Bj),(A4L,.arr 147 false Tq4)]⟩),(41,⟨[(1,.c AU),(4,.c (xo A4M))],[(A4Z,.box Bj),(A4M,.arr 147 false Tq4)]⟩)],[]⟩
def XF:Sig:=.of [Sq3] [.cell false (.sl 147 Tq4),J3] (Ph N)
def nP:Jy 66 (XF N):=J5 (J4 [(31,LD N),(68,WR N),(130,Xr N),(131,wP N),(132,kJ N),(133,ZZ N)] tZ) yK f66 N (Jw ⟨La N,Xt N,aB N,AeU N,sG N,tY N,trivial⟩)
open Go.Proofs Go.Proofs.Tryz
def Apa:A55:=[A53 3 [],A53 94 [1,88,89]]
def Arx:Lk:=⟨[],[(94,⟨[(1,.c AU),(88,.i),(89,.c x64)],[(A4Z,.box Bj)]⟩,[(0,⟨[],[]⟩)])]⟩
def xI:Sig:=.of [Sq3] [J3] (Yy N)
def zK:Jy 38 (xI N):=J5 (J4 [(86,Qw N),(87,Aba N),(88,oV N),(89,Qi N),(90,oU N)] Apa [] [] [] [40,45,46,50,56,57]) Arx f38 N (Jw ⟨PK N,Acp N,AcK N,QW N,AcJ N,trivial⟩)
def sW:A55:=[(3,⟨[5,6],[([6],9,Au,A4T)],[],[(A4K,A4T)],[]⟩),(38,⟨[5,6,22,23,24],[([6],9,Au,A4K)],[],[(54272,A4K)],[]⟩),(57,⟨[5,6,8,9,22,23,24],[([6],9,Au,A4L)],[],[(A4K,A4L)],[]⟩),(65,⟨[5,6,8,9,22,23,24],[([6],9,Au,A4M)],[],[(A4L,A4M)],[]⟩),(77,⟨[5,6,9,22,23,24],[([6],9,Au,A4O)],[],[(A4M,A4O)],[]⟩)]
def xG:Lk:=⟨[(57,⟨[(5,.c AZ),(6,.c (xo A4L)),(8,.c AY),(9,.c (xo 39936)),(22,.i),(23,.i),(24,.i)],[(A4Y,.box BK),(38144,.box [xb]),(39936,.arr 9 false Au),(A4L,.arr 9 false Au)]⟩),(65,⟨[(5,.c AZ),(6,.c (xo A4M)),(8,.c AY),(9,.c (xo 39936)),(22,.i),(23,.i),(24,.i)],[(A4Y,.box BK),(38144,.box [xb]),(39936,.arr 9 false Au),(A4M,.arr 9 false Au)]⟩),(77,⟨[(5,.c AZ),(6,.c (xo A4O)),(9,.c (xo 39936)),(22,.i),(23,.i),(24,.i)],[(38144,.box [xb]),(39936,.arr 9 false Au),(A4O,.arr 9 false Au)]⟩)],[(38,⟨[(5,.c AZ),(6,.c (xo A4K)),(22,.i),(23,.i),(24,.c x64)],[(38144,.box [xb]),(A4K,.arr 9 false Au)]⟩,[(0,⟨[(5,.c AZ),(6,.c (xo A4T))],[(38144,.box [xb]),(A4T,.arr 9 false Au)]⟩)])]⟩
def Xy:Sig:=.of [.cell false (.sl 123 Tq2)] [J8,J3] (QC N)
def mD:Jy 103 (Xy N):=J5 (J4 [(89,Qi N),(166,VK N),(43,Nl N),(46,LX N),(167,ZO N),(93,WH N),(40,Oy N),(49,Yf N)] sW) xG f103 N (Jw ⟨QW N,Y5 N,Nh N,LH N,iP N,Xh N,Og N,Vr N,trivial⟩)
def uP:Sig:=.of [A41,AoE] [J3] (fun a=>XN N a.1 a.2)
def AdA:Jy 197 (uP N):=J5 (J4 [(200,jH N),(235,Aco N),(236,uM N)] []) A56 f197 N (Jw ⟨oW N,Ahh N,Ad7 N,trivial⟩)
def sU:A55:=[(3,⟨[6],[([6],123,Tq2,A4L)],[],[(A4K,A4L)],[]⟩),(30,⟨[4,6],[([6],123,Tq2,A4K)],[],[(44032,A4K)],[]⟩)]
def xE:Lk:=⟨[],[(30,⟨[(4,.c (.c (.ptr 36096 0))),(6,.c (xo A4K))],[(36096,.box [Bi]),(A4K,.arr 123 false Tq2)]⟩,[(0,⟨[(6,.c (xo A4L))],[(A4L,.arr 123 false Tq2)]⟩)])]⟩
def Xx:Sig:=.of [J8] [.cell false (.sl 123 Tq2),J3] (QB N)
def lZ:Jy 202 (Xx N):=J5 (J4 [(143,Xf N),(241,Yx N),(89,Qi N)] sU [(32,WA N),(144,Rz N)]) xE f202 N (Jw ⟨Zf N,oN N,QW N,trivial⟩ ⟨Ze N,Y0 N,trivial⟩)
def yJ:A55:=[A53 3 [1,5,7,9,11],A53 42 [1,5,7,9,11,12,46,47,48],A53 81 [1,5,7,9,11]]
def AaD:Lk:=⟨[(81,⟨[(1,.c AU),(5,.i),(7,.i),(9,.i),(11,.c xs)],[(A4Z,.box Bj)]⟩)],[(42,⟨[(1,.c AU),(5,.i),(7,.i),(9,.i),(11,.c xs),(12,.c (.c (.ptr 35840 0))),(46,.i),(47,.i),(48,.c x64)],[(A4Z,.box Bj),(35840,.box [Bc])]⟩,[(0,⟨[(1,.c AU),(5,.i),(7,.i),(9,.i),(11,.c xs)],[(A4Z,.box Bj)]⟩)])]⟩
def YG:Sig:=.of [Sq3] [J8,J3] (RJ N)
def sF:Jy 21 (YG N):=J5 (J4 [(61,lL N),(62,We N),(63,VX N),(64,AcD N),(65,Vl N),(66,XF N),(67,wQ N),(68,WR N),(69,Xp N)] yJ) AaD f21 N (Jw ⟨AbS N,YE N,Y9 N,Aib N,TY N,nP N,AeY N,Xt N,ZY N,trivial⟩)
open Go.Proofs Go.Proofs.Tryz
def zO:A55:=[(17,⟨[0,3,5],[([5],147,Tq4,A4K)],[],[(37888,A4K)],[]⟩),(29,⟨[0,3,5],[],[],[(39936,A4L),(42752,A4L)],[]⟩),(37,⟨[0,3,5],[],[],[(45312,A4M),(A4L,A4M)],[]⟩)]
def AaZ:Lk:=⟨[(17,⟨[(0,.c AL),(3,.c AO),(5,.c (xo A4K))],[(0,.box [xb]),(A4P,.box Bj),(A4K,.arr 147 false Tq4)]⟩),(29,⟨[(0,.c AL),(3,.c AO),(5,.c (xo A4L))],[(0,.box [xb]),(A4P,.box Bj),(A4L,.arr 147 false Tq4)]⟩),(37,⟨[(0,.c AL),(3,.c AO),(5,.c (xo A4M))],[(0,.box [xb]),(A4P,.box Bj),(A4M,.arr 147 false Tq4)]⟩)],[]⟩
def YY:Sig:=.of [.box [(false,.bool)],Sq3] [.cell false (.sl 147 Tq4)] (fun a=>SH N a.1 a.2)
def tJ:Jy 48 (YY N):=J5 (J4 [(46,LX N),(40,Oy N),(41,Ur N),(102,zT N),(103,Xy N),(43,Nl N)] zO) AaZ f48 N (Jw ⟨LH N,Og N,Vs N,AfP N,mD N,Nh N,trivial⟩)
def Ad5:A55:=[A53 3 [0,4,6,7],A53 66 [0,4,6,7,57,58,59],A53 89 [0,4,6,7]]
def AfL:Lk:=⟨[(89,⟨[(0,.c AL),(4,.c AP),(6,.c AV),(7,.c AX)],[(0,.box [Bi]),(A4Q,.box BI),(33797,.Ko 103 false Aq),(A4S,.box BJ),(34409,.Ko 103 false Aq),(34560,.box Bq)]⟩)],[(66,⟨[(0,.c AL),(4,.c AP),(6,.c AV),(7,.c AX),(57,.i),(58,.i),(59,.c x64)],[(0,.box [Bi]),(A4Q,.box BI),(33797,.Ko 103 false Aq),(A4S,.box BJ),(34409,.Ko 103 false Aq),(34560,.box Bq)]⟩,[(0,⟨[(0,.c AL),(4,.c AP),(6,.c AV),(7,.c AX)],[(0,.box [Bi]),(A4Q,.box BI),(33797,.Ko 103 false Aq),(A4S,.box BJ),(34409,.Ko 103 false Aq),(34560,.box Bq)]⟩)])]⟩
def kS:Sig:=.of [Xb,Sq1] [AoF,J3] (fun a=>Vz N a.1 a.2)
def AaY:Jy 145 (kS N):=J5 (J4 [(57,bJ N),(78,oZ N),(80,Abb N),(81,PH N),(146,pX N),(197,uP N),(37,NQ N)] Ad5) AfL f145 N (Jw ⟨kR N,uN N,Acr N,P7 N,uV N,AdA N,NJ N,trivial⟩)
def zU:Sig:=.of [Ayo,AoE] [J3] (fun a=>Zc N a.1 a.2)
def AfQ:Jy 147 (zU N):=J5 (J4 [(199,gK N),(200,jH N),(201,zM N),(202,Xx N)] []) A56 f147 N (Jw ⟨zL N,oW N,AfM N,lZ N,trivial⟩)
def lC:Sig:=.of [Sq3] [J8] (V5 N)
def Ab3:Jy 6 (lC N):=J5 (J4 [(21,YG N),(22,AeT N)] []) A56 f6 N (Jw ⟨sF N,Akh N,trivial⟩)
open Go.Proofs Go.Proofs.Tryz
def AtY:A55:=[(3,⟨[1,5,7],[([7],9,Au,A4M)],[],[(A4L,A4M)],[]⟩),(42,⟨[1,5,7,8,26,27,28],[([7],9,Au,A4L)],[],[(42496,A4L)],[]⟩),A53 65 [1,5,6]]
def Awq:Lk:=⟨[(65,⟨[(1,.c AU),(5,.c (.c (.ptr 37376 0))),(6,.c xs)],[(A4Z,.box Bj),(37376,.box [xb])]⟩)],[(42,⟨[(1,.c AU),(5,.c (.c (.ptr 37376 0))),(7,.c (xo A4L)),(8,.c AY),(26,.i),(27,.i),(28,.c x64)],[(A4Z,.box Bj),(A4Y,.box [Bc]),(37376,.box [xb]),(A4L,.arr 9 false Au)]⟩,[(0,⟨[(1,.c AU),(5,.c (.c (.ptr 37376 0))),(7,.c (xo A4M))],[(A4Z,.box Bj),(37376,.box [xb]),(A4M,.arr 9 false Au)]⟩)])]⟩
def uJ:Sig:=.of [Sq3] [J8,J3] (Vg N)
def oQ:Jy 11 (uJ N):=J5 (J4 [(38,xI N),(39,zS N),(40,Oy N),(41,Ur N),(42,Vu N),(44,bT N),(43,Nl N),(45,jJ N),(48,YY N),(47,pY N),(46,LX N),(49,Yf N)] AtY) Awq f11 N (Jw ⟨zK N,AfO N,Og N,Vs N,X5 N,kW N,Nh N,pG N,tJ N,uX N,LH N,Vr N,trivial⟩)
def AaX:A55:=[(3,⟨[8],[([8],53,Tq3,A4L)],[],[(A4K,A4L)],[]⟩),(30,⟨[3,6,8],[([8],53,Tq3,A4K)],[],[(44544,A4K)],[]⟩)]
def AcL:Lk:=⟨[],[(30,⟨[(3,.c AO),(6,.c (.c (.ptr 36352 0))),(8,.c (xo A4K))],[(A4P,.box [Bc]),(36352,.box [Bi]),(A4K,.arr 53 false Tq3)]⟩,[(0,⟨[(8,.c (xo A4L))],[(A4L,.arr 53 false Tq3)]⟩)])]⟩
def aS:Sig:=.of [J8,Sq1] [.cell false (.sl 53 Tq3),J3] (fun a=>TB N a.1 a.2)
def xJ:Jy 82 (aS N):=J5 (J4 [(143,Xf N),(145,kS N)] AaX [(76,QU N),(144,Rz N)]) AcL f82 N (Jw ⟨Zf N,AaY N,trivial⟩ ⟨Um N,Y0 N,trivial⟩)
def tH:A55:=[A53 3 [7],A53 26 [0,7,21,22,23]]
def xK:Lk:=⟨[],[(26,⟨[(0,.c AL),(7,.c (xo 37632)),(21,.i),(22,.i),(23,.c x64)],[(0,.box Bj),(37632,.mp Au (.bool .nil))]⟩,[(0,⟨[(7,.c (xo 37632))],[(0,.box Bj),(37632,.mp Au (.bool .nil))]⟩)])]⟩
def Xz:Sig:=.of [Ayo,J8] [J3] (fun a=>QD N a.1 a.2)
def mF:Jy 83 (Xz N):=J5 (J4 [(146,pX N),(147,zU N)] tH) xK f83 N (Jw ⟨uV N,AfQ N,trivial⟩)
open Go.Proofs Go.Proofs.Tryz
def Ahg:A55:=[A53 117 [0,5,9]]
def AiE:Lk:=⟨[(117,⟨[(0,.c AL),(5,.c (.c (.ptr 36608 0))),(9,.c (.c (.ptr 35072 0)))],[(0,.box Bj),(35072,.box BG),(36608,.box [Bi])]⟩)],[]⟩
def uK:Sig:=.of [Ayo,J8] [J3] (fun a=>XM N a.1 a.2)
def Ad6:Jy 34 (uK N):=J5 (J4 [(78,oZ N),(35,YV N),(33,NS N),(79,bQ N),(80,Abb N),(81,PH N),(82,aS N),(83,Xz N),(37,NQ N)] Ahg [(76,QU N)]) AiE f34 N (Jw ⟨uN N,gJ N,NK N,kV N,Acr N,P7 N,xJ N,mF N,NJ N,trivial⟩ ⟨Um N,trivial⟩)
def Agu:Sig:=.of [Sq3,Aha] [J8,J3] (fun a=>gI N a.1 a.2)
def AkE:Jy 16 (Agu N):=J5 (J4 [(11,uJ N),(55,aK N),(12,AaW N)] []) A56 f16 N (Jw ⟨oQ N,uB N,Acn N,trivial⟩)
open Go.Proofs Go.Proofs.Tryz
def oO:Sig:=.of [J8] [Sq3,J3] (PS N)
def uI:Jy 10 (oO N):=J5 (J4 [(33,NS N),(34,uK N),(35,YV N),(36,uO N),(37,NQ N),(38,xI N),(11,uJ N)] [] [(32,WA N)]) A56 f10 N (Jw ⟨NK N,Ad6 N,gJ N,Ad9 N,NJ N,zK N,oQ N,trivial⟩ ⟨Ze N,trivial⟩)
open Go.Proofs Go.Proofs.Tryz
def Acv:Sig:=.of [] [JY] (fun _=>Tt N)
def Ah3:Jy 4 (Acv N):=J5 (J4 [(14,AgC N),(15,U1 N),(16,Agu N),(10,oO N),(17,AiB N),(19,aX N),(18,Ad4 N),(20,Ad2 N)] [] [(13,sK N)] [] [] [45,48,49,55,56,58,59,63,64,67] [(8,7,49,[50,51,52,53,54])]) A56 f4 N (Jw ⟨Al0 N,Vw N,AkE N,uI N,Anb N,yO N,AiC N,Ad3 N,trivial⟩ ⟨Amb N,trivial⟩)
open Go.Proofs Go.Proofs.Tryz
def Aap:A55:=[A53 3 [],A53 26 [32,33,34]]
def Abz:Lk:=⟨[],[(26,⟨[(32,.c (xo 40960)),(33,.i),(34,.c x64)],[(40960,.arr 9 false Au)]⟩,[(0,⟨[],[]⟩)])]⟩
def Ab0:Sig:=.of [J8,AoG] [JY] (fun a=>NF N a.1 a.2)
def tV:Jy 3 (Ab0 N):=J5 (J4 [(4,Acv N),(5,AjA N),(7,AgA N),(6,lC N),(8,jU N),(9,Acw N),(10,oO N),(11,uJ N),(12,AaW N)] Aap [] [] [] [59,62,63,67,68,73,74,79]) Abz f3 N (Jw ⟨Ah3 N,An0 N,Alv N,Ab3 N,qH N,Ah7 N,uI N,oQ N,Acn N,trivial⟩)
end
end Go.Proofs.YtmgpaalplkkpnaaGreatDoor.Vm
