import Derived.Test.YtpaimpmokhihmaaGreatDoorA18
set_option linter.all false
namespace Go.Proofs.YtpaimpmokhihmaaGreatDoor.Vm
noncomputable section
variable (N:Nat)
open Go.Proofs Go.Proofs.Tryz
def AdH:=JA 5 [Sq0] [Sq1] (YJ N) [] f5 N
def lH:=JA 6 [Sq1,Jq] [Jq] (fun a=>NG N a.1 a.2) [] f6 N
def Wi:=JA 7 [] [Sq2] (fun _=>Qc N) [] f7 N
def MW:=JA 14 [Sq2] [JC] (LM N) [] f14 N
def AcG:=JA 267 [Jq] [Jq] (wW N) [] f267 N
def Q8:=JA 58 [Sq4] [Sq3,Jq] (PX N) [] f58 N
def uU:AiL:=[(3,⟨[3],[([3],3,Aw,Aiy)],[],[(Air,Aiy)],[]⟩),AiJ 7 [0,3,4],AiJ 11 [],(14,⟨[0,3,4],[([3],3,Aw,Air)],[],[(42240,Air)],[]⟩),(30,⟨[0,3,4,5],[([3],3,Aw,Ais)],[],[(Air,Ais)],[]⟩)]
def y8:Lk:=⟨[],[(14,⟨[(0,.i),(3,.c (xo Air)),(4,.c x64)],[(Air,.arr 3 false Aw)]⟩,[(0,⟨[(3,.c (xo Aiy))],[(Aiy,.arr 3 false Aw)]⟩)]),(30,⟨[(0,.i),(3,.c (xo Ais)),(4,.c x64),(5,.c x64)],[(Ais,.arr 3 false Aw)]⟩,[(1,⟨[(0,.i),(3,.c (xo 42240)),(4,.c x64)],[(42240,.arr 3 false Aw)]⟩),(2,⟨[],[]⟩)])]⟩
def y9:=J9 189 [Js] [Sq0] (jX N) [] uU y8 f189 N
def MJ:=JA 33 [Sq4] [Jq] (LD N) [] f33 N
open Go.Proofs Go.Proofs.Tryz
def xX:AiL:=[AiJ 3 [3],AiJ 14 [3,8,9,10]]
def AaL:Lk:=⟨[],[(14,⟨[(3,.c (xo Ai1)),(8,.c (xo Ai1)),(9,.i),(10,.c x64)],[(Ai1,.arr 5 false Ar)]⟩,[(0,⟨[(3,.c (xo Ai1))],[(Ai1,.arr 5 false Ar)]⟩)])]⟩
def AaM:=J9 215 [Js] [Js] (YH N) [] xX AaL f215 N
def uJ:AiL:=[AiJ 3 [3],AiJ 14 [3,8,9,10]]
def xO:Lk:=⟨[],[(14,⟨[(3,.c (xo Ai1)),(8,.c (xo Ai1)),(9,.i),(10,.c x64)],[(Ai1,.arr 5 false Ar)]⟩,[(0,⟨[(3,.c (xo Ai1))],[(Ai1,.arr 5 false Ar)]⟩)])]⟩
def xP:=J9 87 [Js] [Js] (Qm N) [] uJ xO f87 N
def Wj:=JA 22 [Uf] [Uf] (KF N) [⟨40,OL N,QX N⟩] f22 N
def Uw:=JA 23 [Aho] [Aho] (NS N) [⟨41,NT N,Qd N⟩] f23 N
open Go.Proofs Go.Proofs.Tryz
def vI:=JA 168 [Jq] [Jq] (VW N) [] f168 N
def Abu:=J9 169 [Jq,Jq] [Jq] (fun a=>YZ N a.1 a.2) [] [] AiM f169 N (bb:=[7,11,12,16,20,21])
def ZP:AiL:=[AiJ 3 [4],(11,⟨[4],[],[(none,4,Ar)],[],[]⟩),(18,⟨[3,4,5],[([4],5,Ar,Air)],[],[(37632,Air)],[]⟩),(30,⟨[4],[],[(none,4,Ar)],[],[]⟩)]
def dY:Lk:=⟨[],[(18,⟨[(3,.i),(4,.c (xo Air)),(5,.c x64)],[(Air,.arr 5 false Ar)]⟩,[(0,⟨[(4,.c (xo Air))],[(Air,.arr 5 false Ar)]⟩)]),(30,⟨[(4,.c (xl Ar))],[]⟩,[(2,⟨[(4,.c (xl Ar))],[]⟩)])]⟩
def dZ:=J9 116 [Jq] [Js] (VT N) [] ZP dY f116 N (bb:=[23,28,33,34,39,44,45,46])
def yV:AiL:=[AiJ 3 [4],AiJ 10 [1,4,8,9,10]]
def Ab1:Lk:=⟨[],[(10,⟨[(1,.i),(4,.c AL),(8,.i),(9,.i),(10,.c x64)],[(Aiw,.box [A8,AB,A8])]⟩,[(0,⟨[(4,.c AL)],[(Aiw,.box [A8,AB,A8])]⟩)])]⟩
def Ab2:=J9 320 [.cell false (.sl 182 Tq2),Js] [Aab,JC] (fun a=>qQ N a.1 a.2) [] yV Ab1 f320 N
def yL:AiL:=[AiJ 3 [0,2,5,6,8],AiJ 70 [0,2,5,6,8,9],AiJ 97 [0,2,5,6,7]]
def Abr:Lk:=⟨[(97,⟨[(0,.i),(2,.c AA),(5,.c AP),(6,.c x64),(7,.c x64)],[(Aiv,.box Bl),(Aiz,.box Bl)]⟩)],[(70,⟨[(0,.i),(2,.c AA),(5,.c AP),(6,.c x64),(8,.i),(9,.c x64)],[(Aiv,.box Bl),(Aiz,.box Bl)]⟩,[(0,⟨[(0,.i),(2,.c AA),(5,.c AP),(6,.c x64),(8,.i)],[(Aiv,.box Bl),(Aiz,.box Bl)]⟩)])]⟩
def eF:=J9 176 [Js] [Sq3,Js,Jq] (YX N) [] yL Abr f176 N
def TT:=JA 173 [JC] [Js] (QG N) [] f173 N
def iY:AiL:=[AiJ 3 [0,4],AiJ 11 [6],AiJ 22 [0,4,5],AiJ 50 [0,4,6,7]]
def lN:Lk:=⟨[],[(22,⟨[(0,.i),(4,.c x64),(5,.c x64)],[]⟩,[(0,⟨[(0,.i),(4,.c x64)],[]⟩)]),(50,⟨[(0,.i),(4,.i),(6,.c (xo Ai6)),(7,.c x64)],[(Ai6,.arr 5 false Ar)]⟩,[(2,⟨[(6,.c (xo Ai6))],[(Ai6,.arr 5 false Ar)]⟩)])]⟩
def lQ:=J9 174 [Jq] [Js,Jq] (Yc N) [] iY lN f174 N
def Zf:=JA 37 [Jq] [Jq] (Nh N) [] f37 N
open Go.Proofs Go.Proofs.Tryz
def UC:=JA 203 [JC] [Js] (RG N) [] f203 N
def lL:AiL:=[AiJ 3 [0,4],AiJ 11 [5],AiJ 18 [0,4],AiJ 38 [0,5,34,35]]
def qJ:Lk:=⟨[],[(18,⟨[(0,.i),(4,.c x64)],[]⟩,[(0,⟨[(0,.i),(4,.c x64)],[]⟩)]),(38,⟨[(0,.i),(5,.c (xo 38912)),(34,.i),(35,.c x64)],[(38912,.arr 5 false Ar)]⟩,[(2,⟨[(5,.c (xo 38912))],[(38912,.arr 5 false Ar)]⟩)])]⟩
def WV:=J9 205 [Jq] [Js,Jq] (Uo N) [] lL qJ f205 N
def Vy:=JA 82 [.box [(false,.bool)]] [JC] (SH N) [] f82 N
def VS (N n:Nat):Sig:=.of [.cell false (.int .i64)] [.cell false .str] (fun a=>TR N n a)
def WW (N:Nat): ∀ n,Spec Tryz.prog 25 (VS N n)
 | 0=>fZ (C:=ctx Tryz.prog [] []) (fn:=f25) (OE (gs:=[]) trivial)
 | n+1=>O8 (C:=ctx Tryz.prog ((25,VS N n)::(ksp [])) []) (L:=⟨[],[]⟩) (fn:=f25) (N:=N) (OE ⟨WW N n,(Rt _)⟩)
def Xv:Sig:=VS N N
def Yb (N:Nat):Spec Tryz.prog 25 (Xv N):=WW N N
def yN:AiL:=[(3,⟨[4],[([4],3,Aw,Aiu)],[],[(Air,Aiu)],[]⟩),(11,⟨[0,4,6,8],[([4],3,Aw,Ait)],[],[(Ais,Ait)],[]⟩),(18,⟨[0,4,5,6],[([4],3,Aw,Air)],[],[(53760,Air)],[]⟩),(58,⟨[0,4,6,7,8,9],[([4],3,Aw,Ais)],[],[(Air,Ais)],[]⟩)]
def Abt:Lk:=⟨[],[(18,⟨[(0,.i),(4,.c (xo Air)),(5,.c x64),(6,.c x64)],[(Air,.arr 3 false Aw)]⟩,[(0,⟨[(4,.c (xo Aiu))],[(Aiu,.arr 3 false Aw)]⟩)]),(58,⟨[(0,.i),(4,.c (xo Ais)),(6,.i),(7,.i),(8,.c x64),(9,.c x64)],[(Ais,.arr 3 false Aw)]⟩,[(2,⟨[(0,.i),(4,.c (xo Ait)),(6,.i),(8,.c x64)],[(Ait,.arr 3 false Aw)]⟩)])]⟩
def eH:=J9 266 [Js] [Sq0,JC] (YY N) [] yN Abt f266 N (bb:=[43,47,48,52,56,57,58,62,88,93,94,99,104,105])
def yP:AiL:=[AiJ 3 [],AiJ 10 [0,3],AiJ 15 [0,3,5,6,7],AiJ 65 [0,3,4,5,6],AiJ 82 [0,3,5,6,7,8]]
def Abw:Lk:=⟨[(65,⟨[(0,.i),(3,.c x64),(4,.i),(5,.c x64),(6,.c x64)],[]⟩)],[(10,⟨[(0,.i),(3,.c x64)],[]⟩,[(0,⟨[],[]⟩)]),(82,⟨[(0,.i),(3,.i),(5,.i),(6,.i),(7,.c x64),(8,.c x64)],[]⟩,[(3,⟨[(0,.i),(3,.i),(5,.i),(6,.i),(7,.c x64)],[]⟩)])]⟩
def Abx:=J9 310 [Js] [JC] (qN N) [] yP Abw f310 N (bb:=[87,90,91,94,97,98])
def Ur:=J9 311 [.cell false (.int .u8)] [JC] (Qp N) [] [] AiM f311 N (bb:=[5,8,9,12,15,16,17,20,23,24])
def uZ:AiL:=[AiJ 3 [],AiJ 10 [0,1,5]]
def yC:Lk:=⟨[],[(10,⟨[(0,.i),(1,.i),(5,.c x64)],[]⟩,[(0,⟨[],[]⟩)])]⟩
def ZB:=J9 312 [.cell false (.int .u8),Js] [JC] (fun a=>Qq N a.1 a.2) [] uZ yC f312 N
open Go.Proofs Go.Proofs.Tryz
def jH:=J9 165 [AfE] [JC] (P9 N) [] [] AiM f165 N (bb:=[7,11,12,16,17,21,22,26])
def vM:AiL:=[(3,⟨[5],[([5],9,Au,Ais)],[],[(Air,Ais)],[]⟩),(18,⟨[0,1,5,6,7],[([5],9,Au,Air)],[],[(40704,Air)],[]⟩)]
def yS:Lk:=⟨[],[(18,⟨[(0,.i),(1,.i),(5,.c (xo Air)),(6,.c x64),(7,.c x64)],[(Air,.arr 9 false Au)]⟩,[(0,⟨[(5,.c (xo Ais))],[(Ais,.arr 9 false Au)]⟩)])]⟩
def ZE:=J9 345 [Js,.cell false (.int .u8)] [Uf] (fun a=>TA N a.1 a.2) [] vM yS f345 N
def vK:AiL:=[AiJ 3 [],AiJ 26 [0,3,4,5]]
def yQ:Lk:=⟨[],[(26,⟨[(0,.i),(3,.i),(4,.c xb),(5,.c x64)],[]⟩,[(0,⟨[],[]⟩)])]⟩
def yR:=J9 317 [Js] [JC] (Xy N) [] vK yQ f317 N (bb:=[37,39,40,43,54,55])
def qO:=JA 318 [Js] [JC] (Ut N) [] f318 N
def vG:AiL:=[AiJ 3 [3],AiJ 14 [3,8,9]]
def yH:Lk:=⟨[],[(14,⟨[(3,.c (xo Ai9)),(8,.i),(9,.c x64)],[(Ai9,.arr 5 false Ar)]⟩,[(0,⟨[(3,.c (xo Ai9))],[(Ai9,.arr 5 false Ar)]⟩)])]⟩
def yI:=J9 384 [Js] [Js] (kE N) [] vG yH f384 N
def vP:=J9 167 [Jq] [JC] (fK N) [] [] AiM f167 N (bb:=[5,8,9,12,15,16])
def yM:AiL:=[AiJ 3 [0,6],AiJ 22 [0,6,22,23,24],(77,⟨[6,10],[],[],[(43008,Ait),(46592,Ait),(49408,Ait),(51456,Ait)],[]⟩)]
def Abs:Lk:=⟨[(77,⟨[(6,.i),(10,.c (xo Ait))],[(Ait,.arr 5 false Ar)]⟩)],[(22,⟨[(0,.i),(6,.c xs),(22,.i),(23,.i),(24,.c x64)],[]⟩,[(0,⟨[(0,.i),(6,.c xs)],[]⟩)])]⟩
def VV:=J9 108 [Jq,Uf] [Js,Jq] (fun a=>RP N a.1 a.2) [] yM Abs f108 N
def vH:AiL:=[(3,⟨[3],[([3],9,Au,Aiu)],[],[(Air,Aiu)],[]⟩),(11,⟨[3,5,6,10,11,12],[([3],9,Au,Ait)],[],[(Ais,Ait)],[Ait]⟩),(14,⟨[3,10,11,12],[([3],9,Au,Air)],[],[(43008,Air)],[]⟩),AiJ 19 [7],(26,⟨[3,5,6,10,11,12],[([3],9,Au,Ais)],[],[(Air,Ais)],[]⟩),AiJ 50 [7,42,43,44]]
def yJ:Lk:=⟨[],[(14,⟨[(3,.c (xo Air)),(10,.i),(11,.i),(12,.c x64)],[(Air,.arr 9 false Au)]⟩,[(0,⟨[(3,.c (xo Aiu))],[(Aiu,.arr 9 false Au)]⟩)]),(26,⟨[(3,.c (xo Ais)),(5,.i),(6,.c x64),(10,.i),(11,.i),(12,.i)],[(Ais,.arr 9 false Au)]⟩,[(2,⟨[(3,.c (xo Ait)),(5,.i),(6,.c x64),(10,.i),(11,.i),(12,.i)],[(Ait,.arr 9 true Au)]⟩)]),(50,⟨[(7,.c xs),(42,.c (xo Aiu)),(43,.i),(44,.c x64)],[(Aiu,.arr 9 false Au)]⟩,[(4,⟨[(7,.c xs)],[]⟩)])]⟩
def yK:=J9 104 [Uf] [Js] (kG N) [] vH yJ f104 N
open Go.Proofs Go.Proofs.Tryz
def iQ:AiL:=[AiJ 17 [0,2,3]]
def lF:Lk:=⟨[(17,⟨[(0,.i),(2,.c AA),(3,.c xs)],[(Aiv,.box [(xo Ai2)]),(Ai2,.KL 91 false Aq)]⟩)],[]⟩
def lG:=J9 16 [Jq] [Sq6] (XU N) [⟨25,Xv N,Yb N⟩] iQ lF f16 N
def VU:=JA 260 [Js] [JC] (SQ N) [eH N] f260 N
def eG:AiL:=[AiJ 7 [],AiJ 25 [0,1,11],AiJ 30 [0,1,5]]
def iZ:Lk:=⟨[(25,⟨[(0,.i),(1,.i),(11,.c xb)],[]⟩)],[(30,⟨[(0,.i),(1,.i),(5,.c x64)],[]⟩,[(1,⟨[],[]⟩)])]⟩
def jA:=J9 261 [Jq,Js] [JC] (fun a=>RN N a.1 a.2) [Abx N,Ur N,ZB N] eG iZ f261 N (bb:=[22,27,32,33,34,37,43,44,50,51])
def Abz:AiL:=[AiJ 3 [],AiJ 11 [10,11,12],AiJ 18 [10,11,12],AiJ 38 [4,5,10,11,12]]
def Ac1:Lk:=⟨[],[(18,⟨[(10,.i),(11,.i),(12,.c x64)],[]⟩,[(0,⟨[],[]⟩)]),(38,⟨[(4,.i),(5,.c x64),(10,.i),(11,.i),(12,.i)],[]⟩,[(2,⟨[(10,.i),(11,.i),(12,.i)],[]⟩)])]⟩
def Tz:=J9 343 [Js] [JC] (MO N) [ZE N,Ur N] Abz Ac1 f343 N (bb:=[19,23,24,28,29,36])
def yG:AiL:=[(3,⟨[3],[([3],5,Ar,Ais)],[],[(Air,Ais)],[]⟩),(18,⟨[0,3,4],[([3],5,Ar,Air)],[],[(41984,Air)],[]⟩)]
def Abp:Lk:=⟨[],[(18,⟨[(0,.i),(3,.c (xo Air)),(4,.c x64)],[(Air,.arr 5 false Ar)]⟩,[(0,⟨[(3,.c (xo Ais))],[(Ais,.arr 5 false Ar)]⟩)])]⟩
def Abq:=J9 372 [Js] [Js] (YW N) [yI N] yG Abp f372 N
def KT:=JA 103 [Jq,Uf] [Js] (fun a=>JZ N a.1 a.2) [VV N] f103 N
def dW:AiL:=[(3,⟨[6],[([6],5,Ar,Ai8)],[],[(Air,Ai8)],[]⟩),(11,⟨[6,9,30,31,32],[([6],5,Ar,Ait)],[],[(Aix,Ait)],[]⟩),(19,⟨[6,9,30,31,32],[([6],5,Ar,Aiy)],[],[(Aiu,Aiy)],[]⟩),(30,⟨[6,30,31,32],[([6],5,Ar,Air)],[],[(48384,Air)],[]⟩),(42,⟨[6,8,9,30,31,32],[([9],5,Ar,Ais),([6],5,Ar,Aix)],[],[(43264,Ais),(Air,Aix)],[]⟩),(58,⟨[6,9,10,30,31,32],[([6],5,Ar,Aiu)],[],[(Ait,Aiu)],[]⟩)]
def iU:Lk:=⟨[],[(30,⟨[(6,.c (xo Air)),(30,.c (xo Ai6)),(31,.i),(32,.c x64)],[(Ai6,.arr 3 false Aw),(Air,.arr 5 false Ar)]⟩,[(0,⟨[(6,.c (xo Ai8))],[(Ai8,.arr 5 false Ar)]⟩)]),(42,⟨[(6,.c (xo Aix)),(8,.c x64),(9,.c (xo Ais)),(30,.c (xo Ai6)),(31,.i),(32,.i)],[(Ai6,.arr 3 false Aw),(Ais,.arr 5 false Ar),(Aix,.arr 5 false Ar)]⟩,[(2,⟨[(6,.c (xo Ait)),(9,.c (xo 43264)),(30,.c (xo Ai6)),(31,.i),(32,.i)],[(Ai6,.arr 3 false Aw),(43264,.arr 5 false Ar),(Ait,.arr 5 false Ar)]⟩)]),(58,⟨[(6,.c (xo Aiu)),(9,.c (xo 43264)),(10,.c x64),(30,.c (xo Ai6)),(31,.i),(32,.i)],[(Ai6,.arr 3 false Aw),(43264,.arr 5 false Ar),(Aiu,.arr 5 false Ar)]⟩,[(4,⟨[(6,.c (xo Aiy)),(9,.c (xo 43264)),(30,.c (xo Ai6)),(31,.i),(32,.i)],[(Ai6,.arr 3 false Aw),(43264,.arr 5 false Ar),(Aiy,.arr 5 false Ar)]⟩)])]⟩
def iV:=J9 175 [Js] [Js,Jq] (WX N) [eH N] dW iU f175 N
def vC:AiL:=[AiJ 3 [0,2,4,5],AiJ 11 [0,2,4,5,6],AiJ 22 [0,2,4,5],AiJ 38 [0,2,4,5,6]]
def yE:Lk:=⟨[],[(22,⟨[(0,.i),(2,.c AA),(4,.i),(5,.c x64)],[(Aiv,.box Bj)]⟩,[(0,⟨[(0,.i),(2,.c AA),(4,.i),(5,.c x64)],[(Aiv,.box Bj)]⟩)]),(38,⟨[(0,.i),(2,.c AA),(4,.c x64),(5,.i),(6,.c x64)],[(Aiv,.box Bj)]⟩,[(2,⟨[(0,.i),(2,.c AA),(4,.c x64),(5,.i),(6,.c x64)],[(Aiv,.box Bj)]⟩)])]⟩
def yF:=J9 106 [Jq] [Sq8,Jq] (kD N) [vI N,Abu N] vC yE f106 N
open Go.Proofs Go.Proofs.Tryz
def Abv:AiL:=[AiJ 3 [5],AiJ 10 [1,5]]
def Acz:Lk:=⟨[],[(10,⟨[(1,.i),(5,.c xs)],[]⟩,[(0,⟨[(5,.c xs)],[]⟩)])]⟩
def Ac0:=J9 107 [Jq,Jq] [Js] (fun a=>OO N a.1 a.2) [⟨25,Xv N,Yb N⟩] Abv Acz f107 N
def Qr:=JA 50 [Jq,Uf] [Js,Jq] (fun a=>ND N a.1 a.2) [VV N] f50 N
def kF:=JA 118 [Js] [Sq3,Jq] (dX N) [eF N] f118 N
def vJ:AiL:=[AiJ 3 [],AiJ 18 [1,5]]
def yO:Lk:=⟨[],[(18,⟨[(1,.i),(5,.c xs)],[]⟩,[(0,⟨[],[]⟩)])]⟩
def SS (N n:Nat):Sig:=.of [Sq3,.cell false (.int .i64)] [.cell false (.int .i64)] (fun a=>Xw N n a.1 a.2)
def UE (N:Nat): ∀ n,Spec Tryz.prog 347 (SS N n)
 | 0=>fZ (C:=ctx Tryz.prog [] []) (fn:=f347) (OE (gs:=[]) trivial)
 | n+1=>O8 (C:=ctx Tryz.prog ((347,SS N n)::(ksp [eF N])) vJ) (L:=yO) (fn:=f347) (N:=N) (OE ⟨UE N n,(Rt _)⟩)
def ZC:Sig:=SS N N
def lT (N:Nat):Spec Tryz.prog 347 (ZC N):=UE N N
def QL:AiL:=[AiJ 3 [0,3,5],(11,⟨[8],[([8],34,Tq6,Aiu)],[],[(Ait,Aiu)],[]⟩),AiJ 22 [0,3,5,15,16,17],(46,⟨[3,5,8,27,28,29],[([8],34,Tq6,Ait)],[],[(45056,Ait)],[]⟩)]
def QW:Lk:=⟨[],[(22,⟨[(0,.c AU),(3,.c AO),(5,.c (xo AiA)),(15,.i),(16,.i),(17,.c x64)],[(0,.box Bh),(101,.arr 34 true Tq6),(102,.mp Tq7 Aw),(Ai0,.box [x64,(xl Aw)]),(AiA,.mp Aw Az)]⟩,[(0,⟨[(0,.c AU),(3,.c AO),(5,.c (xo AiA))],[(0,.box Bh),(101,.arr 34 true Tq6),(102,.mp Tq7 Aw),(Ai0,.box [x64,(xl Aw)]),(AiA,.mp Aw Az)]⟩)]),(46,⟨[(3,.c AO),(5,.c (xo AiA)),(8,.c (xo Ait)),(27,.c (xo 101)),(28,.i),(29,.c x64)],[(0,.box Bh),(101,.arr 34 true Tq6),(102,.mp Tq7 Aw),(Ai0,.box [x64,(xl Aw)]),(AiA,.mp Aw Az),(Ait,.arr 34 false Tq6)]⟩,[(2,⟨[(8,.c (xo Aiu))],[(0,.box Bh),(101,.arr 34 true Tq6),(102,.mp Tq7 Aw),(Aiu,.arr 34 false Tq6)]⟩)])]⟩
def NW:=J9 18 [Sq2,AfG] [.cell false (.sl 34 Tq6)] (fun a=>KR N a.1 a.2) [MW N] QL QW f18 N
def AaG:=JA 152 [Js,Js] [JC] (fun a=>YF N a.1 a.2) [AaM N] f152 N
def TZ:=JA 21 [Sq2] [Jq] (PD N) [MW N] f21 N
open Go.Proofs Go.Proofs.Tryz
def qU:=JA 113 [Jq,JC] [Js] (fun a=>Qz N a.1 a.2) [TT N,KT N] f113 N
def ZF:=JA 114 [Jq,Jq] [Js] (fun a=>X0 N a.1 a.2) [lQ N,KT N] f114 N
def yZ:=JA 55 [Js,Jq] [Sq3,Jq] (fun a=>kK N a.1 a.2) [kF N] f55 N
def Tc:AiL:=[(3,⟨[4,5],[],[],[(34049,1004128),(34050,Aix),(34051,Ais),(Air,1004128),(Ai7,Aix),(AiC,Ais)],[]⟩),(14,⟨[4,5,10,11,12],[],[],[(34049,Air),(34050,Ai7),(34051,AiC),(38144,AiC),(40960,Air),(43776,Ai7)],[]⟩)]
def Ua:Lk:=⟨[],[(14,⟨[(4,.c AL),(5,.c AP),(10,.i),(11,.i),(12,.c x64)],[(0,.box Bh),(101,.arr 34 true Tq6),(102,.mp Tq7 Aw),(Aiw,.box [(xo Ai4),(xo 33794),(xo AiB)]),(Ai4,.KL 9 false Au),(33794,.KL 9 false Au),(AiB,.KL 32 false (.str Au)),(Aiz,.box [(xo Air),(xo Ai7),(xo AiC)]),(Air,.arr 9 false Au),(Ai7,.arr 9 false Au),(AiC,.arr 32 false (.str Au))]⟩,[(0,⟨[(4,.c AL),(5,.c AP)],[(0,.box Bh),(101,.arr 34 true Tq6),(102,.mp Tq7 Aw),(Aiw,.box [(xo Ai4),(xo 33794),(xo AiB)]),(Ai4,.KL 9 false Au),(33794,.KL 9 false Au),(AiB,.KL 32 false (.str Au)),(Aiz,.box [(xo 1004128),(xo Aix),(xo Ais)]),(Ais,.arr 32 false (.str Au)),(Aix,.arr 9 false Au),(1004128,.arr 9 false Au)]⟩)])]⟩
def OQ:=J9 13 [Sq2,AfG] [Ail] (fun a=>Lm N a.1 a.2) [NW N,Wj N,Uw N] Tc Ua f13 N
open Go.Proofs Go.Proofs.Tryz
def AbV:=JA 292 [Jq] [JC] (bJ N) [] f292 N
def NI:=JA 62 [Sq4,Jq] [Sq3,JC] (fun a=>Lj N a.1 a.2) [] f62 N
def UA:=JA 124 [Sq4] [Jq] (Oj N) [] f124 N
def Aa4:AiL:=[AiJ 3 [3],AiJ 14 [3,9,10,11]]
def Acd:Lk:=⟨[],[(14,⟨[(3,.c (xo Ai5)),(9,.i),(10,.i),(11,.c x64)],[(Ai5,.mp Au Aw)]⟩,[(0,⟨[(3,.c (xo Ai5))],[(Ai5,.mp Au Aw)]⟩)])]⟩
def Ace:=J9 201 [.cell false (.sl 182 Tq2)] [Sq9] (wI N) [] Aa4 Acd f201 N
def XZ:=JA 218 [Js] [JC,Jq] (VQ N) [] f218 N
def nG:AiL:=[(3,⟨[2,3],[([3],91,Aq,Ais)],[],[(Air,Ais)],[]⟩),(14,⟨[2,3,7,8,9],[([3],91,Aq,Air)],[],[(37120,Air)],[]⟩)]
def rZ:Lk:=⟨[],[(14,⟨[(2,.c AA),(3,.c (xo Air)),(7,.i),(8,.i),(9,.c x64)],[(Aiv,.box [(xo Ai2)]),(Ai2,.KL 91 false Aq),(Air,.arr 91 false Aq)]⟩,[(0,⟨[(2,.c AA),(3,.c (xo Ais))],[(Aiv,.box [(xo Ai2)]),(Ai2,.KL 91 false Aq),(Ais,.arr 91 false Aq)]⟩)])]⟩
def sD:=J9 183 [Sq6] [Sq6] (aU N) [] nG rZ f183 N
def Z9:=JA 294 [Jq] [Jq] (Xr N) [] f294 N
def oO:=JA 84 [Jq] [Jq] (l7 N) [] f84 N
open Go.Proofs Go.Proofs.Tryz
def AbA:AiL:=[(3,⟨[3],[([3],5,Ar,Aiu)],[],[(Air,Aiu)],[]⟩),(18,⟨[3,4,8,9,10],[([3],5,Ar,Air)],[],[(41472,Air)],[]⟩),(45,⟨[3,4,6,8,9,10],[([3],5,Ar,Ais)],[],[(38400,Ais),(Air,Ais)],[]⟩),(53,⟨[3,4,6,8,9,10],[([3],5,Ar,Ait)],[],[(Ais,Ait)],[]⟩)]
def Ac9:Lk:=⟨[(45,⟨[(3,.c (xo Ais)),(4,.c xb),(6,.i),(8,.c (xo Ai5)),(9,.i),(10,.i)],[(Ai5,.arr 5 false Ar),(Ais,.arr 5 false Ar)]⟩),(53,⟨[(3,.c (xo Ait)),(4,.i),(6,.c x8),(8,.c (xo Ai5)),(9,.i),(10,.i)],[(Ai5,.arr 5 false Ar),(Ait,.arr 5 false Ar)]⟩)],[(18,⟨[(3,.c (xo Air)),(4,.c xb),(8,.c (xo Ai5)),(9,.i),(10,.c x64)],[(Ai5,.arr 5 false Ar),(Air,.arr 5 false Ar)]⟩,[(0,⟨[(3,.c (xo Aiu))],[(Aiu,.arr 5 false Ar)]⟩)])]⟩
def AcA:=J9 334 [Js] [Js] (gQ N) [] AbA Ac9 f334 N
def Ae8:=JA 195 [Jq] [Jq] (rY N) [] f195 N
def sH:=JA 134 [Q4] [JC] (aY N) [] f134 N
def ML:=JA 76 [.box [(false,.bool)],Js,Jq] [Js] (fun a=>JW N a.1 a.2.1 a.2.2) [] f76 N
def AcF:AiL:=[AiJ 3 [0,1,6],AiJ 22 [0,1,6,21,22,23],(77,⟨[1,9],[],[],[(45568,Ait),(47616,Ait),(49664,Ait),(52480,Ait)],[]⟩)]
def Aeo:Lk:=⟨[(77,⟨[(1,.i),(9,.c (xo Ait))],[(Ait,.arr 5 false Ar)]⟩)],[(22,⟨[(0,.i),(1,.i),(6,.c x64),(21,.i),(22,.i),(23,.c x64)],[]⟩,[(0,⟨[(0,.i),(1,.i),(6,.c x64)],[]⟩)])]⟩
def Ox:=J9 139 [Jq,Uf] [Js,Jq] (fun a=>Lt N a.1 a.2) [⟨191,Td N,UL N⟩] AcF Aeo f139 N
def dV:AiL:=[AiJ 3 [0,3],(11,⟨[5],[([5],5,Ar,Aiu)],[],[(Ait,Aiu)],[]⟩),AiJ 14 [0,3,4],(34,⟨[0,3,5,18,19],[([5],5,Ar,Ait)],[],[(41216,Ait)],[]⟩)]
def iT:Lk:=⟨[],[(14,⟨[(0,.i),(3,.c x64),(4,.c x64)],[]⟩,[(0,⟨[(0,.i),(3,.c x64)],[]⟩)]),(34,⟨[(0,.i),(3,.i),(5,.c (xo Ait)),(18,.i),(19,.c x64)],[(Ait,.arr 5 false Ar)]⟩,[(2,⟨[(5,.c (xo Aiu))],[(Aiu,.arr 5 false Ar)]⟩)])]⟩
def UD:=J9 136 [Jq] [Js] (RH N) [] dV iT f136 N
def AbW:AiL:=[(3,⟨[0,1,7],[],[],[(0,Ais),(Air,Ais)],[]⟩),AiJ 11 [0],(14,⟨[0,1,2,7,8],[],[],[(0,Air),(37632,Air)],[]⟩),AiJ 30 [0,1,7,9]]
def Adk:Lk:=⟨[],[(14,⟨[(0,.c (xo Air)),(1,.i),(2,.i),(7,.i),(8,.c x64)],[(Air,.arr 5 false Ar)]⟩,[(0,⟨[(0,.c (xo Ais)),(1,.i),(7,.i)],[(Ais,.arr 5 false Ar)]⟩)]),(30,⟨[(0,.c (xo Ais)),(1,.c x64),(7,.i),(9,.c x64)],[(Ais,.arr 5 false Ar)]⟩,[(2,⟨[(0,.c (xo Ais))],[(Ais,.arr 5 false Ar)]⟩)])]⟩
def Adl:=J9 143 [Ahl,Jq,Jq] [Ahl] (fun a=>Y2 N a.1 a.2.1 a.2.2) [] AbW Adk f143 N
def AdR:AiL:=[AiJ 3 [0,1,5],AiJ 10 [0,1,5],(11,⟨[0,1],[],[],[(0,Aiu),(Ait,Aiu)],[]⟩),(22,⟨[0,1,6],[],[],[(0,Ait),(40704,Ait)],[]⟩)]
def Afp:Lk:=⟨[],[(10,⟨[(0,.c (xo 0)),(1,.i),(5,.c x64)],[(0,.arr 5 true Ar)]⟩,[(0,⟨[(0,.c (xo 0)),(1,.i),(5,.c x64)],[(0,.arr 5 true Ar)]⟩)]),(22,⟨[(0,.c (xo Ait)),(1,.i),(6,.c x64)],[(Ait,.arr 5 true Ar)]⟩,[(2,⟨[(0,.c (xo Aiu)),(1,.i)],[(Aiu,.arr 5 true Ar)]⟩)])]⟩
def Afq:=J9 197 [Ahm,Jq] [Ahm] (fun a=>uV N a.1 a.2) [] AdR Afp f197 N
open Go.Proofs Go.Proofs.Tryz
def ZA:=J9 210 [.cell false (.int .u8)] [JC] (Xt N) [] [] AiM f210 N (bb:=[5,8,9,12,15,16])
def dG:=JA 211 [.cell false (.int .u8)] [JC] (UU N) [] f211 N
def xR:=JA 330 [Js] [Js,Js] (jS N) [] f330 N
def Ad3:=JA 331 [Js,Jq] [JC] (fun a=>YE N a.1 a.2) [] f331 N
def uM:=JA 287 [Js] [JC] (VA N) [] f287 N
def Abj:=JA 129 [Js,Jq] [JC] (fun a=>YS N a.1 a.2) [] f129 N
def AdW:=JA 323 [Js,Jq] [JC] (fun a=>YR N a.1 a.2) [] f323 N
def nR:=JA 68 [Jq,Jq,Jq] [JC] (fun a=>NH N a.1 a.2.1 a.2.2) [] f68 N
open Go.Proofs Go.Proofs.Tryz
def xW:AiL:=[AiJ 3 [],AiJ 18 [32,33,34]]
def AaJ:Lk:=⟨[],[(18,⟨[(32,.c (xo 40960)),(33,.i),(34,.c x64)],[(40960,.arr 5 false Ar)]⟩,[(0,⟨[],[]⟩)])]⟩
def AaK:=J9 150 [Js] [JC] (YG N) [⟨209,PS N,QT N⟩,ZA N,dG N,⟨212,P6 N,Qs N⟩] xW AaJ f150 N (bb:=[9,13,14,18,19,26,27,30])
def xU:AiL:=[AiJ 3 [],AiJ 18 [27,28,29]]
def AaH:Lk:=⟨[],[(18,⟨[(27,.c (xo 39680)),(28,.i),(29,.c x64)],[(39680,.arr 5 false Ar)]⟩,[(0,⟨[],[]⟩)])]⟩
def AaI:=J9 214 [Js] [JC] (oV N) [ZA N,dG N] xU AaH f214 N (bb:=[8,12,13,17,18,25])
def xQ:AiL:=[AiJ 3 [],AiJ 26 [3,4,5,6]]
def AaE:Lk:=⟨[],[(26,⟨[(3,.i),(4,.i),(5,.c xb),(6,.c x64)],[]⟩,[(0,⟨[],[]⟩)])]⟩
def AaF:=J9 286 [Js] [JC] (YD N) [xR N,Ad3 N] xQ AaE f286 N (bb:=[32,34,35,38,42,43])
def bK:AiL:=[AiJ 29 [8,9]]
def iM:Lk:=⟨[(29,⟨[(8,.i),(9,.c x64)],[(0,.box [Bf])]⟩)],[]⟩
def iO:=J9 271 [Sq4,Jq] [JC,Jq] (fun a=>MF N a.1 a.2) [NI N,XZ N] bK iM f271 N
def jZ:=JA 66 [Js] [Js,Jq,Jq] (dS N) [Abj N] f66 N
def AbB:=JA 295 [Js,Js] [JC] (fun a=>Zm N a.1 a.2) [AcA N] f295 N
def Aap:=JA 133 [Jq] [JC] (nO N) [Ae8 N] f133 N
def Ll:=JA 79 [.box [(false,.bool)],Jq,Uf] [Js] (fun a=>Kq N a.1 a.2.1 a.2.2) [Ox N,ML N] f79 N
open Go.Proofs Go.Proofs.Tryz
def qI:AiL:=[AiJ 3 [4],AiJ 30 [0,4,42,43]]
def uX:Lk:=⟨[],[(30,⟨[(0,.i),(4,.c x64),(42,.i),(43,.c x64)],[]⟩,[(0,⟨[(4,.c x64)],[]⟩)])]⟩
def Ya:=J9 121 [Js] [Jq,Jq] (VR N) [] qI uX f121 N (bb:=[8,12,16,20,21,25,29,30,31,32])
def AdP:AiL:=[AiJ 3 [3],AiJ 22 [0,3,4]]
def Afn:Lk:=⟨[],[(22,⟨[(0,.i),(3,.c x64),(4,.c x64)],[]⟩,[(0,⟨[(3,.c x64)],[]⟩)])]⟩
def Afo:=J9 288 [Js] [Jq] (AcQ N) [] AdP Afn f288 N (bb:=[7,11,12,16,20,21])
def AdS:=JA 289 [Jq,Jq] [JC] (fun a=>Abe N a.1 a.2) [] f289 N
def zD:=J9 281 [.cell false (.int .u8)] [JC] (kL N) [] [] AiM f281 N (bb:=[5,8,9,12,15,16,17,20,23,24])
def vU:=JA 282 [.cell false (.int .u8)] [JC] (Wp N) [] f282 N
def mD:AiL:=[AiJ 3 [],AiJ 10 [0,3]]
def rC:Lk:=⟨[],[(10,⟨[(0,.i),(3,.c x64)],[]⟩,[(0,⟨[],[]⟩)])]⟩
def rD:=J9 178 [.cell false (.sl 100 Tq0)] [JC] (ZJ N) [] mD rC f178 N
def tC:AiL:=[AiJ 3 [3],AiJ 14 [3,7,8,9]]
def xI:Lk:=⟨[],[(14,⟨[(3,.c x64),(7,.c (xo Ai1)),(8,.i),(9,.c x64)],[(Ai1,.arr 5 false Ar)]⟩,[(0,⟨[(3,.c x64)],[]⟩)])]⟩
def Z5:=J9 180 [Js] [Jq] (Oz N) [] tC xI f180 N
def nX:=JA 291 [Jq] [Jq] (Uj N) [] f291 N
open Go.Proofs Go.Proofs.Tryz
def AcE:AiL:=[AiJ 3 [0,2,5,6,7,8,9],AiJ 74 [0,2,5,6,7,8,9,50,51,52],AiJ 101 [0,2,5,6,7,8]]
def Aen:Lk:=⟨[(101,⟨[(0,.i),(2,.c AA),(5,.c AP),(6,.i),(7,.c x64),(8,.c x64)],[(Aiv,.box Bl),(Aiz,.box Bl)]⟩)],[(74,⟨[(0,.i),(2,.c AA),(5,.c AP),(6,.i),(7,.c x64),(8,.i),(9,.i),(50,.c (xo 45568)),(51,.i),(52,.c x64)],[(Aiv,.box Bl),(Aiz,.box Bl),(45568,.arr 5 false Ar)]⟩,[(0,⟨[(0,.i),(2,.c AA),(5,.c AP),(6,.i),(7,.c x64),(8,.i),(9,.i)],[(Aiv,.box Bl),(Aiz,.box Bl)]⟩)])]⟩
def Zp:=J9 177 [Js] [Sq3,Js,Jq] (Zo N) [AcG N] AcE Aen f177 N
def MK:=JA 29 [Sq4,Jq] [Sq3,Jq] (fun a=>LG N a.1 a.2) [Q8 N] f29 N
def y5:AiL:=[(3,⟨[7],[([7],9,Au,Ais)],[],[(Air,Ais)],[]⟩),(34,⟨[7,36,37,38],[([7],9,Au,Air)],[],[(45056,Air)],[]⟩)]
def Abc:Lk:=⟨[],[(34,⟨[(7,.c (xo Air)),(36,.c (xo 41728)),(37,.i),(38,.c x64)],[(41728,.arr 3 false Aw),(Air,.arr 9 false Au)]⟩,[(0,⟨[(7,.c (xo Ais))],[(Ais,.arr 9 false Au)]⟩)])]⟩
def VN:=J9 128 [Js] [Js,Jq] (UY N) [y9 N,⟨190,Yk N,jI N⟩,⟨191,Td N,UL N⟩] y5 Abc f128 N
def Acx:AiL:=[(3,⟨[4],[([4],3,Aw,Ais)],[],[(Air,Ais)],[]⟩),(26,⟨[4,18,19,20],[([4],3,Aw,Air)],[],[(40704,Air)],[]⟩)]
def AdQ:Lk:=⟨[],[(26,⟨[(4,.c (xo Air)),(18,.i),(19,.i),(20,.c x64)],[(Air,.arr 3 false Aw)]⟩,[(0,⟨[(4,.c (xo Ais))],[(Ais,.arr 3 false Aw)]⟩)])]⟩
def qB:=J9 196 [Js] [Sq5] (lJ N) [⟨213,PE N,Uc N⟩,Afo N,AdS N] Acx AdQ f196 N
def vT:=JA 280 [.cell false (.int .u8)] [JC] (Wn N) [zD N,⟨212,P6 N,Qs N⟩] f280 N
def bM (N n:Nat):Sig:=.of [.cell false (.int .i64)] [.cell false (.int .i64)] (tH N n)
def o5 (N:Nat):WJ Tryz.prog (bM N):=tJ (Jp:=[.cell false (.int .i64)]) (Jz:=[.cell false (.int .i64)]) (l:=[(291,fun a=>Uj N a)]) ⟨(nX N).h,trivial⟩
def Z4:=JA 200 [Jq,Jq] [Jq] (fun a=>Pq N a.1 a.2) [AbV N] f200 N
def Aas:=JA 182 [Jq,Js] [Sq8] (fun a=>nY N a.1 a.2) [Z5 N] f182 N
open Go.Proofs Go.Proofs.Tryz
def yA:AiL:=[AiJ 3 [8],AiJ 46 [4,8,35,36]]
def Abi:Lk:=⟨[],[(46,⟨[(4,.i),(8,.c x64),(35,.i),(36,.c x64)],[]⟩,[(0,⟨[(8,.c x64)],[]⟩)])]⟩
def dU:=J9 272 [Js] [Jq,Jq] (Va N) [jZ N,AdW N] yA Abi f272 N
def nP:=JA 32 [Sq4] [Js,Jq] (Zv N) [MK N,jZ N] f32 N
def Aav:AiL:=[AiJ 3 [],AiJ 10 [3,7,8,9]]
def AbY:Lk:=⟨[],[(10,⟨[(3,.c AO),(7,.i),(8,.i),(9,.c x64)],[(Ai0,.box [xs,x64,xs])]⟩,[(0,⟨[],[]⟩)])]⟩
def AbZ:=J9 207 [.cell false (.sl 90 Tq1),Sq7] [JC] (fun a=>WQ N a.1 a.2) [AbB N] Aav AbY f207 N
def NJ:=JA 73 [.box [(false,.bool)],Uf] [Js] (fun a=>Lu N a.1 a.2) [Ll N] f73 N
def Q9:=JA 74 [.box [(false,.bool)],Jq] [Js] (fun a=>OG N a.1 a.2) [UD N,Ll N] f74 N
def y7:AiL:=[(3,⟨[5],[],[],[(37888,Ais),(Air,Ais)],[]⟩),(26,⟨[5,22,23,24],[],[],[(37888,Air),(40448,Air)],[]⟩)]
def Abd:Lk:=⟨[],[(26,⟨[(5,.c (xo Air)),(22,.i),(23,.i),(24,.c x64)],[(Air,.arr 5 true Ar)]⟩,[(0,⟨[(5,.c (xo Ais))],[(Ais,.arr 5 true Ar)]⟩)])]⟩
def VO:=J9 138 [Js] [Js,Jq] (UZ N) [qB N,Afq N] y7 Abd f138 N
def iP:=JA 206 [.box [(false,.bool)],Jq,JC] [Js] (fun a=>P7 N a.1 a.2.1 a.2.2) [UC N,Ll N] f206 N
def VY:AiL:=[AiJ 3 [],AiJ 10 [0,6,7,8],AiJ 11 [0,6,7,8],AiJ 46 [0,3,4,5,6,7,8]]
def WC:Lk:=⟨[],[(10,⟨[(0,.i),(6,.i),(7,.i),(8,.c x64)],[]⟩,[(0,⟨[],[]⟩)]),(46,⟨[(0,.i),(3,.i),(4,.c AL),(5,.c x64),(6,.i),(7,.i),(8,.i)],[(Aiw,.box [xs,x64,xs])]⟩,[(2,⟨[(0,.i),(6,.i),(7,.i),(8,.i)],[]⟩)])]⟩
def WE:=J9 164 [.cell false (.sl 90 Tq1)] [Jq] (QR N) [VU N,jA N] VY WC f164 N
open Go.Proofs Go.Proofs.Tryz
def Ud:=JA 119 [Js] [Sq3,Jq] (Vq N) [Zp N] f119 N
def AcD:AiL:=[(3,⟨[4],[([4],100,Tq0,Ais)],[],[(Air,Ais)],[]⟩),(10,⟨[0,4],[([4],100,Tq0,Air)],[],[(38400,Air)],[]⟩)]
def Aem:Lk:=⟨[],[(10,⟨[(0,.c xs),(4,.c (xo Air))],[(Air,.arr 100 false Tq0)]⟩,[(0,⟨[(4,.c (xo Ais))],[(Ais,.arr 100 false Tq0)]⟩)])]⟩
def Ov:=J9 120 [Js] [.cell false (.sl 100 Tq0),Jq] (OZ N) [Zp N] AcD Aem f120 N
def aZ:=JA 59 [Sq4] [Jq,Jq] (Y0 N) [MK N,Ya N] f59 N
def jW:=JA 192 [Js] [JC] (dQ N) [qB N] f192 N
def wH (N n:Nat):Sig:=.of [.cell false (.int .u8)] [.cell false .bool] (AcN N n)
def Ado (N:Nat):WJ Tryz.prog (wH N):=tJ (Jp:=[.cell false (.int .u8)]) (Jz:=[.cell false .bool]) (l:=[(280,fun a=>Wn N a),(282,fun a=>Wp N a)]) ⟨(vT N).h,(vU N).h,trivial⟩
def Zz:=J9 199 [Jq] [Jq] (Tq N) [] [] AiM f199 N (dd:=[(7,bM N),(12,bM N)]) (hD:=⟨o5 N,o5 N,trivial⟩)
def zH:AiL:=[AiJ 3 [],AiJ 18 [1,5]]
def AbE:Lk:=⟨[],[(18,⟨[(1,.i),(5,.c xs)],[]⟩,[(0,⟨[],[]⟩)])]⟩
def U0 (N n:Nat):Sig:=.of [Sq3,.cell false (.int .i64)] [.cell false (.int .i64)] (fun a=>Zq N n a.1 a.2)
def Ws (N:Nat): ∀ n,Spec Tryz.prog 293 (U0 N n)
 | 0=>fZ (C:=ctx Tryz.prog [] []) (fn:=f293) (OE (gs:=[]) trivial)
 | n+1=>O8 (C:=ctx Tryz.prog ((293,U0 N n)::(ksp [Zp N])) zH) (L:=AbE) (fn:=f293) (N:=N) (OE ⟨Ws N n,(Rt _)⟩)
def gU:Sig:=U0 N N
def rF (N:Nat):Spec Tryz.prog 293 (gU N):=Ws N N
def Acm:AiL:=[AiJ 3 [],AiJ 18 [9,10,11]]
def Ad2:Lk:=⟨[],[(18,⟨[(9,.i),(10,.i),(11,.c x64)],[]⟩,[(0,⟨[],[]⟩)])]⟩
def UT:=J9 151 [Js] [JC] (O6 N) [⟨213,PE N,Uc N⟩,AaI N] Acm Ad2 f151 N
open Go.Proofs Go.Proofs.Tryz
def TK:=JA 56 [Js,Jq] [Sq3,Jq] (fun a=>Vh N a.1 a.2) [Ud N] f56 N
def NF (N:Nat):Alt:=.of [.cell false .str] [Sq4,.cell false (.int .i64)] [.cell false .ptr,.cell false (.int .i64)] (fun a=>PI N a)
def OT (N:Nat):Spec Tryz.prog 57 (NF N).1/\Spec Tryz.prog 57 (NF N).2.1:=Yo (C:=ctx Tryz.prog (ksp [Ov N]) []) (L:=⟨[],[]⟩) (fn:=f57) (N:=N) (OE (Rt _)) (by kernel_rfl) (by kernel_rfl) (fun a=>by kernel_rfl)
def VG:=JA 65 [Sq3] [Jq] (Qn N) [Ov N,VN N] f65 N
def AcB:AiL:=[AiJ 3 [],AiJ 10 [0,1,5]]
def Aek:Lk:=⟨[],[(10,⟨[(0,.i),(1,.i),(5,.c x64)],[]⟩,[(0,⟨[],[]⟩)])]⟩
def Ael:=J9 279 [Js,.cell false .fn] [JC] (fun a=>lZ N a.1 a.2) [] AcB Aek f279 N (dd:=[(12,wH N)]) (hD:=⟨Ado N,trivial⟩)
def V5:AiL:=[AiJ 85 [2,4,5,7]]
def Wy:Lk:=⟨[(85,⟨[(2,.c AA),(4,.c AL),(5,.i),(7,.i)],[(Aiv,.box [A8,A7,A8]),(Aiw,.box [A8,A7,A8])]⟩)],[]⟩
def W9:=J9 179 [Sq3] [Sq7,Jq] (QN N) [Ov N,VN N] V5 Wy f179 N
def nV:AiL:=[AiJ 3 [1,4],AiJ 30 [1,4,5]]
def sW:Lk:=⟨[],[(30,⟨[(1,.c AQ),(4,.c x64),(5,.c x64)],[(Ai3,.box Bv)]⟩,[(0,⟨[(1,.c AQ),(4,.c x64)],[(Ai3,.box Bv)]⟩)])]⟩
def sZ:=J9 181 [Sq8] [Jq,Jq] (bI N) [Z4 N,Zz N] nV sW f181 N (bb:=[9,13,14,18,19,23,24,28,29,38,42,46,47,51,52,56,57,61,62,66])
def AcC:=JA 202 [Js] [Jq] (wV N) [Ud N,⟨293,gU N,rF N⟩] f202 N
def kW:AiL:=[AiJ 89 [2,4,5,6]]
def oD:Lk:=⟨[(89,⟨[(2,.c AA),(4,.c AL),(5,.c AP),(6,.c Bf)],[(Aiv,.box [A8,AB,A8]),(Aiw,.box [A8,AB,A8]),(Aiz,.box [xs,xb,A8])]⟩)],[]⟩
def oG:=J9 155 [Sq3] [Aab,Jq] (Z7 N) [Ov N,VN N,XZ N] kW oD f155 N
open Go.Proofs Go.Proofs.Tryz
def Tu:=J9 85 [Js] [JC] (Nb N) [⟨149,Uz N,Wl N⟩,AaK N,UT N] [] AiM f85 N (bb:=[13,17,18,21,22,25])
def Acl:=JA 284 [Js] [JC] (dF N) [UT N] f284 N
def uN:=JA 285 [Js] [JC] (VB N) [⟨329,SC N,X6 N⟩,UT N,⟨209,PS N,QT N⟩] f285 N
def xK:AiL:=[AiJ 3 [],AiJ 18 [0,1,12,13]]
def Aaw:Lk:=⟨[],[(18,⟨[(0,.i),(1,.i),(12,.i),(13,.c x64)],[]⟩,[(0,⟨[],[]⟩)])]⟩
def Aax:=J9 148 [.cell false (.sl 90 Tq1),.cell false (.sl 90 Tq1)] [JC] (fun a=>o9 N a.1 a.2) [AbZ N] xK Aaw f148 N
def xE:AiL:=[AiJ 3 [2,4,5,6],AiJ 11 [2,4,5,6,7],AiJ 22 [2,4,5,6],AiJ 38 [2,4,5,6,7]]
def Aaq:Lk:=⟨[],[(22,⟨[(2,.c AA),(4,.i),(5,.i),(6,.c x64)],[(Aiv,.box Bj)]⟩,[(0,⟨[(2,.c AA),(4,.i),(5,.i),(6,.c x64)],[(Aiv,.box Bj)]⟩)]),(38,⟨[(2,.c AA),(4,.c x64),(5,.i),(6,.i),(7,.c x64)],[(Aiv,.box Bj)]⟩,[(2,⟨[(2,.c AA),(4,.c x64),(5,.i),(6,.i),(7,.c x64)],[(Aiv,.box Bj)]⟩)])]⟩
def Aar:=J9 142 [Jq] [Sq8,Jq] (nU N) [Zz N,Z4 N] xE Aaq f142 N
def kX:AiL:=[AiJ 49 [1,6]]
def oH:Lk:=⟨[(49,⟨[(1,.c AQ),(6,.c (xo 36864))],[(Ai3,.box [xs,xb,xs]),(36864,.arr 9 false Au)]⟩)],[]⟩
def oI:=J9 145 [Aab] [Js,Jq] (Z8 N) [VO N,Ox N,UC N] kX oH f145 N
def WB:=JA 140 [Sq7] [Js,Jq] (QO N) [VO N,Ox N] f140 N
def ZO:=JA 75 [] [Js] (fun _=>UB N) [VO N,Ox N] f75 N
open Go.Proofs Go.Proofs.Tryz
def PW (N:Nat):Alt:=.of [.cell false .str,.cell false (.int .i64)] [Sq4,.cell false (.int .i64)] [.cell false .ptr,.cell false (.int .i64)] (fun a=>Vx N a.1 a.2)
def Rk (N:Nat):Spec Tryz.prog 28 (PW N).1/\Spec Tryz.prog 28 (PW N).2.1:=Yo (C:=ctx Tryz.prog (ksp [TK N]) [] [(57,NF N)]) (L:=⟨[],[]⟩) (fn:=f28) (N:=N) (OE (Rt _) ⟨OT N,trivial⟩) (by kernel_rfl) (by kernel_rfl) (fun a=>by kernel_rfl)
def WN:=JA 31 [Sq4] [Jq] (Ui N) [Q8 N,VG N] f31 N
def AbC:=JA 193 [Jq,Js] [JC] (fun a=>Zn N a.1 a.2) [⟨278,qZ N,zF N⟩,Ael N] f193 N
def WA:AiL:=[(3,⟨[6],[([6],90,Tq1,Ais)],[],[(Air,Ais)],[]⟩),(42,⟨[6,26,27,28],[([6],90,Tq1,Air)],[],[(43776,Air)],[]⟩)]
def Xo:Lk:=⟨[],[(42,⟨[(6,.c (xo Air)),(26,.i),(27,.i),(28,.c x64)],[(Air,.arr 90 false Tq1)]⟩,[(0,⟨[(6,.c (xo Ais))],[(Ais,.arr 90 false Tq1)]⟩)])]⟩
def Xp:=J9 122 [Sq3] [.cell false (.sl 90 Tq1),Jq] (Rl N) [Ov N,rD N,W9 N] WA Xo f122 N
def sU:AiL:=[AiJ 33 [1,6],AiJ 69 [1,6,7]]
def xG:Lk:=⟨[(33,⟨[(1,.i),(6,.c x64)],[]⟩),(69,⟨[(1,.i),(6,.i),(7,.c x64)],[]⟩)],[]⟩
def Zx:=J9 123 [Jq,Js] [Jq,Jq] (fun a=>Xm N a.1 a.2) [Z5 N,Aas N,sZ N] sU xG f123 N
def NV (N:Nat):Alt:=.of [Sq4] [Sq4,.cell false (.int .i64)] [.cell false .ptr,.cell false (.int .i64)] (fun a=>Qh N a)
def QM (N:Nat):Spec Tryz.prog 125 (NV N).1/\Spec Tryz.prog 125 (NV N).2.1:=Yo (C:=ctx Tryz.prog (ksp [MK N]) [] [(57,NF N)]) (L:=⟨[],[]⟩) (fn:=f125) (N:=N) (OE (Rt _) ⟨OT N,trivial⟩) (by kernel_rfl) (by kernel_rfl) (fun a=>by kernel_rfl)
def Aa1:AiL:=[AiJ 3 [],AiJ 30 [3,15,16,17]]
def Acb:Lk:=⟨[],[(30,⟨[(3,.c (xo 36352)),(15,.i),(16,.i),(17,.c x64)],[(36352,.mp Au Aw)]⟩,[(0,⟨[],[]⟩)])]⟩
def jO:=J9 144 [.cell false (.sl 182 Tq2)] [Jq] (bT N) [Ace N,jW N,AcC N] Aa1 Acb f144 N
def Zu:=JA 186 [Js,Jq] [Jq,Jq] (fun a=>Tn N a.1 a.2) [TK N,Ya N] f186 N
open Go.Proofs Go.Proofs.Tryz
def vN:AiL:=[AiJ 3 [0,5],AiJ 11 [0,5],AiJ 18 [0,5],AiJ 38 [0,5,6]]
def yT:Lk:=⟨[],[(18,⟨[(0,.i),(5,.c x64)],[]⟩,[(0,⟨[(0,.i),(5,.c x64)],[]⟩)]),(38,⟨[(0,.i),(5,.i),(6,.c x64)],[]⟩,[(2,⟨[(0,.i),(5,.i)],[]⟩)])]⟩
def yU:=J9 344 [Js] [Js,Js,JC] (kH N) [Tz N,Ur N,ZB N] vN yT f344 N (bb:=[24,27,28,33,34,41,42,46,47,53,64,70,71,76,82,83])
def Aby:=JA 315 [Js] [JC] (Za N) [Tz N] f315 N
def qP:=J9 316 [Js] [JC] (Uu N) [Tz N,ZE N] [] AiM f316 N (bb:=[5,9,13,14,18,19,23,24,29,30])
def iW:=JA 346 [Js,Js] [JC] (fun a=>RJ N a.1 a.2) [Abq N] f346 N
def Xx:=JA 117 [Js] [Js] (WY N) [iV N,KT N] f117 N
def TS:=JA 48 [Jq] [Js,Jq] (NP N) [yF N,Ac0 N,VV N] f48 N
def SX:=JA 53 [Jq,Jq] [Js] (fun a=>OI N a.1 a.2) [dZ N,KT N] f53 N
def yD:=JA 321 [Js] [Jq] (kC N) [kF N,⟨347,ZC N,lT N⟩] f321 N
open Go.Proofs Go.Proofs.Tryz
def eP:AiL:=[AiJ 3 [],AiJ 18 [11,12,13]]
def jB:Lk:=⟨[],[(18,⟨[(11,.i),(12,.i),(13,.c x64)],[]⟩,[(0,⟨[],[]⟩)])]⟩
def Nz:=J9 99 [Sq6] [Jq] (Nr N) [WE N] eP jB f99 N
def eX:=JA 314 [Js] [JC] (Vb N) [yU N] f314 N
def Ab0:AiL:=[AiJ 3 [],AiJ 10 [3,7,8,9]]
def Ac2:Lk:=⟨[],[(10,⟨[(3,.c AO),(7,.i),(8,.i),(9,.c x64)],[(Ai0,.box [xs,x64,xs])]⟩,[(0,⟨[],[]⟩)])]⟩
def Ac3:=J9 319 [.cell false (.sl 90 Tq1),Sq7] [JC] (fun a=>WZ N a.1 a.2) [iW N] Ab0 Ac2 f319 N
def ZU:AiL:=[(3,⟨[3],[([3],9,Au,Ais)],[],[(Air,Ais)],[]⟩),(14,⟨[3,6,7,8],[([3],9,Au,Air)],[],[(39168,Air)],[]⟩)]
def fB:Lk:=⟨[],[(14,⟨[(3,.c (xo Air)),(6,.i),(7,.i),(8,.c x64)],[(Air,.arr 9 false Au)]⟩,[(0,⟨[(3,.c (xo Ais))],[(Ais,.arr 9 false Au)]⟩)])]⟩
def fC:=J9 105 [.cell false (.sl 90 Tq1)] [Uf] (VX N) [Xx N,KT N] ZU fB f105 N
def fE:AiL:=[AiJ 3 [],AiJ 10 [0,8,9,10]]
def jF:Lk:=⟨[],[(10,⟨[(0,.i),(8,.i),(9,.i),(10,.c x64)],[]⟩,[(0,⟨[],[]⟩)])]⟩
def jG:=J9 265 [.cell false (.sl 182 Tq2)] [Jq] (Xb N) [VU N,Ab2 N,yD N] fE jF f265 N
def UG:=JA 54 [] [Js] (fun _=>RS N) [Xx N,KT N] f54 N
open Go.Proofs Go.Proofs.Tryz
def oU:=JA 283 [Js] [JC] (Um N) [Tu N,⟨328,Sr N,WI N⟩,UT N] f283 N
def o8:AiL:=[AiJ 3 [],AiJ 18 [2,3,15,16]]
def tX:Lk:=⟨[],[(18,⟨[(2,.c AA),(3,.c AO),(15,.i),(16,.c x64)],[(Aiv,.box [Ba]),(Ai0,.box [Ba])]⟩,[(0,⟨[],[]⟩)])]⟩
def tY:=J9 83 [Sq6,Sq6] [JC] (fun a=>V4 N a.1 a.2) [Aax N] o8 tX f83 N
def sV:AiL:=[AiJ 3 [6,7],(37,⟨[4,6,7],[],[],[(38144,Air),(39680,Air)],[]⟩),(42,⟨[6,7,38,39,40],[],[],[(44544,Air)],[]⟩)]
def xH:Lk:=⟨[(37,⟨[(4,.c AL),(6,.c x64),(7,.c (xo Air))],[(Aiw,.box Bv),(Air,.arr 5 false Ar)]⟩)],[(42,⟨[(6,.i),(7,.c (xo Air)),(38,.c (xo 42496)),(39,.i),(40,.c x64)],[(42496,.arr 3 false Aw),(Air,.arr 5 false Ar)]⟩,[(0,⟨[(6,.i),(7,.c (xo Air))],[(Air,.arr 5 false Ar)]⟩)])]⟩
def Zy:=J9 78 [Jq] [Js,Jq] (Qk N) [Aar N,Adl N,Ox N] sV xH f78 N
def lU:=J9 313 [Js] [JC] (SV N) [eX N,Tz N] [] AiM f313 N (bb:=[5,8,9,13,17,18,22,23,27,28])
def jC:AiL:=[AiJ 3 [],AiJ 18 [0,1,12,13]]
def lV:Lk:=⟨[],[(18,⟨[(0,.i),(1,.i),(12,.i),(13,.c x64)],[]⟩,[(0,⟨[],[]⟩)])]⟩
def lW:=J9 263 [.cell false (.sl 90 Tq1),.cell false (.sl 90 Tq1)] [JC] (fun a=>Yf N a.1 a.2) [Ac3 N] jC lV f263 N
def ZR:AiL:=[AiJ 3 [5],AiJ 26 [5,14,15,16]]
def eU:Lk:=⟨[],[(26,⟨[(5,.c xs),(14,.i),(15,.i),(16,.c x64)],[]⟩,[(0,⟨[(5,.c xs)],[]⟩)])]⟩
def TV:=J9 47 [Sq6] [Js,Jq] (QI N) [Nz N,fC N,yK N,KT N] ZR eU f47 N
def WG:=JA 172 [.cell false (.sl 182 Tq2)] [Jq] (QS N) [jG N] f172 N
def Ab3:=JA 27 [Js,Js] [Js,Jq] (fun a=>qR N a.1 a.2) [yZ N,Qr N,UG N] f27 N
open Go.Proofs Go.Proofs.Tryz
def Xn:AiL:=[AiJ 3 [],AiJ 11 [0,13,14,15],AiJ 26 [0,13,14,15],AiJ 62 [0,4,13,14,15,41,42,43]]
def XN:Lk:=⟨[],[(26,⟨[(0,.i),(13,.i),(14,.i),(15,.c x64)],[]⟩,[(0,⟨[],[]⟩)]),(62,⟨[(0,.i),(4,.c AL),(13,.i),(14,.i),(15,.i),(41,.i),(42,.i),(43,.c x64)],[(Aiw,.box [xs,x64,xs])]⟩,[(2,⟨[(0,.i),(13,.i),(14,.i),(15,.i)],[]⟩)])]⟩
def XO:=J9 130 [.cell false (.sl 90 Tq1)] [Jq] (Sz N) [jW N,AbC N] Xn XN f130 N
def nT:=JA 61 [Sq4] [Jq,Jq] (Y1 N) [Q8 N,Zx N] f61 N
def xM:AiL:=[(3,⟨[7],[([7],182,Tq2,Ais)],[],[(Air,Ais)],[]⟩),(46,⟨[7,33,34,35],[([7],182,Tq2,Air)],[],[(45568,Air)],[]⟩)]
def Aa2:Lk:=⟨[],[(46,⟨[(7,.c (xo Air)),(33,.i),(34,.i),(35,.c x64)],[(Air,.arr 182 false Tq2)]⟩,[(0,⟨[(7,.c (xo Ais))],[(Ais,.arr 182 false Tq2)]⟩)])]⟩
def bU:=J9 94 [Js] [.cell false (.sl 182 Tq2),Jq] (Y7 N) [Ud N,Ov N,oG N,jO N] xM Aa2 f94 N
def xC:=JA 268 [Js] [Jq,Jq] (jM N) [Ud N,Zx N] f268 N
def dE:=J9 194 [Jq,Js,JC] [JC] (fun a=>QC N a.1 a.2.1 a.2.2) [oU N,Tu N,Acl N,uN N,AaF N,uM N] [] AiM f194 N (bb:=[11,14,15,18,21,22,26,29,30,33,36,37,41,44,45,48,51,52])
def aW:=J9 185 [Js] [Js,Jq] (Vu N) [MK N,MJ N] [] AiM f185 N (aa:=[(28,PW N)]) (hA:=⟨Rk N,trivial⟩)
def Pg:=JA 36 [Sq6,Sq6] [JC] (fun a=>MX N a.1 a.2) [tY N] f36 N
def xN:AiL:=[(3,⟨[5],[([5],9,Au,Ais)],[],[(Air,Ais)],[]⟩),(26,⟨[5,17,18,19],[([5],9,Au,Air)],[],[(41216,Air)],[]⟩)]
def Aa3:Lk:=⟨[],[(26,⟨[(5,.c (xo Air)),(17,.i),(18,.i),(19,.c x64)],[(Air,.arr 9 false Au)]⟩,[(0,⟨[(5,.c (xo Ais))],[(Ais,.arr 9 false Au)]⟩)])]⟩
def bV:=J9 80 [.cell false (.sl 182 Tq2)] [Js,Jq] (Y8 N) [jO N,oI N,Ox N] xN Aa3 f80 N
open Go.Proofs Go.Proofs.Tryz
def l9:=JA 86 [Js,Js] [JC] (fun a=>XQ N a.1 a.2) [Tu N,⟨149,Uz N,Wl N⟩,AaG N] f86 N
open Go.Proofs Go.Proofs.Tryz
def Yd:AiL:=[AiJ 53 [2,5]]
def Zb:Lk:=⟨[(53,⟨[(2,.c AA),(5,.c xb)],[(Aiv,.box [x64,xs,Ba])]⟩)],[]⟩
def RQ:=J9 262 [Vr,JC] [Jq] (fun a=>PO N a.1 a.2) [lU N,eX N,Aby N,qP N,yR N,qO N,Nz N] Yd Zb f262 N (bb:=[11,15,16,19,23,24,28,32,33,36,40,41,45,49,50,53,57,58])
def ZT:AiL:=[AiJ 3 [],AiJ 18 [2,3,15,16]]
def eY:Lk:=⟨[],[(18,⟨[(2,.c AA),(3,.c AO),(15,.i),(16,.c x64)],[(Aiv,.box [Ba]),(Ai0,.box [Ba])]⟩,[(0,⟨[],[]⟩)])]⟩
def fA:=J9 170 [Sq6,Sq6] [JC] (fun a=>QJ N a.1 a.2) [lW N] ZT eY f170 N
def Vd:AiL:=[AiJ 3 [5],AiJ 26 [5,17,18,19],AiJ 45 [5,7,8,17,18,19]]
def VZ:Lk:=⟨[(45,⟨[(5,.i),(7,.c AV),(8,.c xs),(17,.i),(18,.i),(19,.i)],[(Ai1,.box [xs,xb,xs])]⟩)],[(26,⟨[(5,.c xs),(17,.i),(18,.i),(19,.c x64)],[]⟩,[(0,⟨[(5,.c xs)],[]⟩)])]⟩
def PQ:=J9 111 [.cell false (.sl 182 Tq2)] [Js,Jq] (O7 N) [WG N,TT N,KT N,Qr N,Xx N] Vd VZ f111 N
open Go.Proofs Go.Proofs.Tryz
def tK:AiL:=[AiJ 3 [],AiJ 18 [11,12,13]]
def xJ:Lk:=⟨[],[(18,⟨[(11,.i),(12,.i),(13,.c x64)],[]⟩,[(0,⟨[],[]⟩)])]⟩
def Oa:=J9 67 [Sq6] [Jq] (O5 N) [XO N] tK xJ f67 N
def Aao:AiL:=[AiJ 3 [],AiJ 10 [2,4,9,10,11]]
def AbS:Lk:=⟨[],[(10,⟨[(2,.i),(4,.c AL),(9,.i),(10,.i),(11,.c x64)],[(Aiw,.box [Ba])]⟩,[(0,⟨[],[]⟩)])]⟩
def AbT:=J9 135 [.cell false (.sl 121 Tq4),Sq6,Jq] [Jq] (fun a=>wG N a.1 a.2.1 a.2.2) [Pg N] Aao AbS f135 N
def ZX:AiL:=[AiJ 3 [],AiJ 18 [9,10,11]]
def fH:Lk:=⟨[],[(18,⟨[(9,.i),(10,.i),(11,.c x64)],[]⟩,[(0,⟨[],[]⟩)])]⟩
def TY:=J9 166 [.cell false (.sl 112 Tq3)] [Jq] (QK N) [RQ N] ZX fH f166 N
def UF:=JA 109 [Sq6,Sq6] [JC] (fun a=>Ns N a.1 a.2) [fA N] f109 N
def Ye:=JA 264 [Vr,JC] [Js,Jq] (fun a=>S9 N a.1 a.2) [RQ N,TV N,KT N] f264 N
def qV:=JA 52 [Jq,.cell false (.sl 182 Tq2)] [Js,Jq] (fun a=>ZG N a.1 a.2) [PQ N,Qr N] f52 N
def AaB:=JA 39 [Vr,Vr] [JC] (fun a=>YA N a.1 a.2) [oO N,Tu N,l9 N,xP N,Pg N] f39 N
open Go.Proofs Go.Proofs.Tryz
def o6:AiL:=[(3,⟨[2,4,8],[],[],[(34817,Ais),(Air,Ais)],[]⟩),(50,⟨[2,4,8,37,38,39],[],[],[(34817,Air),(47104,Air)],[]⟩)]
def tN:Lk:=⟨[],[(50,⟨[(2,.c AA),(4,.c AL),(8,.c AX),(37,.i),(38,.i),(39,.c x64)],[(Aiv,.box [(xo Ai2)]),(Ai2,.KL 91 false Aq),(Aiw,.box [(xo Ai4)]),(Ai4,.KL 91 false Aq),(Ai5,.box [(xo Air)]),(Air,.arr 91 false Aq)]⟩,[(0,⟨[(2,.c AA),(4,.c AL),(8,.c AX)],[(Aiv,.box [(xo Ai2)]),(Ai2,.KL 91 false Aq),(Aiw,.box [(xo Ai4)]),(Ai4,.KL 91 false Aq),(Ai5,.box [(xo Ais)]),(Ais,.arr 91 false Aq)]⟩)])]⟩
def XL:=J9 60 [Js] [Sq6,Jq] (Vz N) [Ud N,Ov N,Xp N,Oa N] o6 tN f60 N
def Qw:=JA 131 [Vr,JC] [Jq] (fun a=>Ql N a.1 a.2) [oO N,Oa N,dE N] f131 N
def kR:=JA 71 [Q4,Jq] [Jq] (fun a=>XH N a.1 a.2) [nR N,Aap N,Oa N,sH N,Pg N,AbT N] f71 N
def o7:AiL:=[(3,⟨[5],[([5],9,Au,Aiu)],[],[(Air,Aiu)],[]⟩),(11,⟨[5,8,21,22,23],[([8],9,Au,Ait),([5],9,Au,1008208)],[],[(Ais,Ait),(Aix,1008208)],[]⟩),(26,⟨[5,21,22,23],[([5],9,Au,Air)],[],[(47872,Air)],[]⟩),(42,⟨[5,8,21,22,23,27,28,29],[([8],9,Au,Ais),([5],9,Au,Aix)],[],[(44032,Ais),(Air,Aix)],[]⟩)]
def tV:Lk:=⟨[],[(26,⟨[(5,.c (xo Air)),(21,.i),(22,.i),(23,.c x64)],[(Air,.arr 9 false Au)]⟩,[(0,⟨[(5,.c (xo Aiu))],[(Aiu,.arr 9 false Au)]⟩)]),(42,⟨[(5,.c (xo Aix)),(8,.c (xo Ais)),(21,.i),(22,.i),(23,.i),(27,.i),(28,.i),(29,.c x64)],[(Ais,.arr 9 false Au),(Aix,.arr 9 false Au)]⟩,[(2,⟨[(5,.c (xo 1008208)),(8,.c (xo Ait)),(21,.i),(22,.i),(23,.i)],[(Ait,.arr 9 false Au),(1008208,.arr 9 false Au)]⟩)])]⟩
def XM:=J9 77 [Sq6] [Js,Jq] (V3 N) [Oa N,WB N,⟨141,X7 N,vV N⟩,Ox N] o7 tV f77 N
def fJ:=JA 100 [Q4] [Jq] (Wh N) [jH N,TY N] f100 N
def Zc:AiL:=[AiJ 3 [],AiJ 18 [10,11,12]]
def ZV:Lk:=⟨[],[(18,⟨[(10,.i),(11,.i),(12,.c x64)],[]⟩,[(0,⟨[],[]⟩)])]⟩
def SA:=J9 101 [.cell false (.sl 204 Tq5)] [Jq] (Qj N) [TY N,Nz N] Zc ZV f101 N (bb:=[20,24,25,29,35,36])
def ZW:AiL:=[AiJ 3 [],AiJ 66 [1,2,5,7]]
def fF:Lk:=⟨[],[(66,⟨[(1,.i),(2,.c AA),(5,.c AP),(7,.c x64)],[(Aiv,.box Bg),(Aiz,.box Bi)]⟩,[(0,⟨[],[]⟩)])]⟩
def fG:=J9 102 [Q4,Jq] [Jq] (fun a=>We N a.1 a.2) [vP N,Nz N,UF N] ZW fF f102 N (bb:=[24,28,29,33,34,38])
def ZQ:AiL:=[AiJ 3 [4],AiJ 30 [4,15,16,17]]
def eQ:Lk:=⟨[],[(30,⟨[(4,.c xs),(15,.i),(16,.i),(17,.c x64)],[]⟩,[(0,⟨[(4,.c xs)],[]⟩)])]⟩
def TU:=J9 171 [.cell false (.sl 112 Tq3)] [Js,Jq] (QH N) [Ye N] ZQ eQ f171 N
open Go.Proofs Go.Proofs.Tryz
def Aau (N n:Nat):Sig:=.of [Vr,Vr] [.cell false .bool] (AeC N n)
def AeD (N:Nat):WJ Tryz.prog (Aau N):=tJ (Jp:=[Vr,Vr]) (Jz:=[.cell false .bool]) (l:=[(39,fun a=>YA N a.1 a.2)]) ⟨(AaB N).h,trivial⟩
open Go.Proofs Go.Proofs.Tryz
def oN:AiL:=[AiJ 29 [1,2,4,6,11,13],(53,⟨[1,4,6],[],[(some Ai9,2,Aq)],[],[]⟩)]
def uH:Lk:=⟨[(29,⟨[(1,.i),(2,.c AA),(4,.c AL),(6,.c AY),(11,.i),(13,.c xb)],[(Aiv,.box [x64,xs,xs]),(Aiw,.box [A7,A8,(xo AiB)]),(AiB,.KL 91 false Aq),(Ai9,.box [A7,A8,(xo 34307)]),(34307,.KL 91 false Aq)]⟩),(53,⟨[(1,.i),(4,.c AL),(6,.c AY)],[(Aiw,.box [A7,A8,(xo AiB)]),(AiB,.KL 91 false Aq),(Ai9,.box [x64,xs,Ba])]⟩)],[]⟩
def uI:=J9 322 [Sq3,JC] [Vr,Jq] (fun a=>dB N a.1 a.2) [XL N,Qw N] oN uH f322 N
def XD:AiL:=[AiJ 3 [],AiJ 10 [6,7,8]]
def Yr:Lk:=⟨[],[(10,⟨[(6,.i),(7,.i),(8,.c x64)],[]⟩,[(0,⟨[],[]⟩)])]⟩
def Yt:=J9 160 [.cell false (.sl 112 Tq3)] [Jq] (TF N) [Qw N] XD Yr f160 N
def iJ:AiL:=[AiJ 7 [],AiJ 21 [3,34],AiJ 46 [66,67,68]]
def kS:Lk:=⟨[(21,⟨[(3,.c AO),(34,.c xb)],[(Ai0,.box [Bc,xb,xb,x64,xb])]⟩)],[(46,⟨[(66,.i),(67,.i),(68,.c x64)],[]⟩,[(1,⟨[],[]⟩)])]⟩
def kT:=J9 69 [Q4] [Jq] (XI N) [Qw N] iJ kS f69 N (bb:=[14,18,19,23,24,28,29,33,44,46,49,52,53,54])
def SI:=JA 137 [Vr,JC] [Js,Jq] (fun a=>Ro N a.1 a.2) [Qw N,Ox N,XM N] f137 N
def fD:AiL:=[AiJ 3 [],AiJ 94 [1,104,105]]
def jD:Lk:=⟨[],[(94,⟨[(1,.c AQ),(104,.i),(105,.c x64)],[(Ai3,.box Bg)]⟩,[(0,⟨[],[]⟩)])]⟩
def jE:=J9 46 [Q4] [Jq] (Xa N) [Nz N,fJ N,SA N,fG N] fD jD f46 N (bb:=[22,26,27,31,32,36,37,43,47,51,52,56,57,61,62,66,72,73])
def UH:=JA 110 [Sq6] [Js] (RU N) [TU N] f110 N
def UI:=JA 112 [.cell false (.sl 112 Tq3)] [Js] (RV N) [TU N,KT N] f112 N
def KU:AiL:=[AiJ 3 [],AiJ 18 [1,2,15,16,17]]
def KZ:Lk:=⟨[],[(18,⟨[(1,.i),(2,.i),(15,.i),(16,.i),(17,.c x64)],[]⟩,[(0,⟨[],[]⟩)])]⟩
def La:=J9 38 [.cell false (.sl 112 Tq3),.cell false (.sl 112 Tq3),.cell false .fn] [JC] (fun a=>JJ N a.1 a.2.1 a.2.2) [] KU KZ f38 N (dd:=[(26,Aau N)]) (hD:=⟨AeD N,trivial⟩)
open Go.Proofs Go.Proofs.Tryz
def ZM:AiL:=[(3,⟨[7],[([7],112,Tq3,Ais)],[],[(Air,Ais)],[]⟩),(38,⟨[7,26,27,28],[([7],112,Tq3,Air)],[],[(43776,Air)],[]⟩)]
def dC:Lk:=⟨[],[(38,⟨[(7,.c (xo Air)),(26,.i),(27,.i),(28,.c x64)],[(Air,.arr 112 false Tq3)]⟩,[(0,⟨[(7,.c (xo Ais))],[(Ais,.arr 112 false Tq3)]⟩)])]⟩
def PL:=J9 270 [Js] [.cell false (.sl 112 Tq3),Jq] (NK N) [Ov N,Z9 N,uI N] ZM dC f270 N
def XE:AiL:=[AiJ 13 [1,4]]
def Yu:Lk:=⟨[(13,⟨[(1,.c AQ),(4,.c xb)],[(Ai3,.box BB)]⟩)],[]⟩
def Yv:=J9 132 [Ahk] [Jq] (TG N) [Yt N,Oa N] XE Yu f132 N
def nM:AiL:=[(17,⟨[0,4,5,7],[([7],182,Tq2,Air)],[],[(38400,Air)],[]⟩),(25,⟨[0,4,5,7],[],[],[(41984,Ais),(Air,Ais)],[]⟩),(37,⟨[0,4,7],[],[],[(47360,Ait),(Ais,Ait)],[]⟩),AiJ 49 [0,4,9]]
def sJ:Lk:=⟨[(17,⟨[(0,.c AU),(4,.c AL),(5,.c AP),(7,.c (xo Air))],[(0,.box [xb]),(Aiw,.box Bi),(Aiz,.box [Ba]),(Air,.arr 182 false Tq2)]⟩),(25,⟨[(0,.c AU),(4,.c AL),(5,.c AP),(7,.c (xo Ais))],[(0,.box [xb]),(Aiw,.box Bi),(Aiz,.box [Ba]),(Ais,.arr 182 false Tq2)]⟩),(37,⟨[(0,.c AU),(4,.c AL),(7,.c (xo Ait))],[(0,.box [xb]),(Aiw,.box Bi),(Ait,.arr 182 false Tq2)]⟩),(49,⟨[(0,.c AU),(4,.c AL),(9,.c xs)],[(0,.box [xb]),(Aiw,.box Bi)]⟩)],[]⟩
def sK:=J9 72 [.box [(false,.bool)],AfD,Sq6] [Js] (fun a=>bC N a.1 a.2.1 a.2.2) [UD N,Ll N,Zy N,ML N,Pg N,SI N,NJ N,bV N,Q9 N] nM sJ f72 N
def ZN:AiL:=[AiJ 3 [5],AiJ 26 [5,16,17,18]]
def dD:Lk:=⟨[],[(26,⟨[(5,.c xs),(16,.i),(17,.i),(18,.c x64)],[]⟩,[(0,⟨[(5,.c xs)],[]⟩)])]⟩
def TM:=J9 204 [.cell false (.sl 112 Tq3)] [Js,Jq] (QB N) [Z9 N,SI N] ZN dD f204 N
def vO:AiL:=[(17,⟨[2,3,5],[([5],182,Tq2,Air)],[],[(37888,Air)],[]⟩),(29,⟨[2,3,5],[],[],[(41472,Ais),(Air,Ais)],[]⟩),(37,⟨[2,5],[],[],[(45056,Ait),(Ais,Ait)],[]⟩),AiJ 49 [2,8]]
def yX:Lk:=⟨[(17,⟨[(2,.c AA),(3,.c AO),(5,.c (xo Air))],[(Aiv,.box Bi),(Ai0,.box [Ba]),(Air,.arr 182 false Tq2)]⟩),(29,⟨[(2,.c AA),(3,.c AO),(5,.c (xo Ais))],[(Aiv,.box Bi),(Ai0,.box [Ba]),(Ais,.arr 182 false Tq2)]⟩),(37,⟨[(2,.c AA),(5,.c (xo Ait))],[(Aiv,.box Bi),(Ait,.arr 182 false Tq2)]⟩),(49,⟨[(2,.c AA),(8,.c xs)],[(Aiv,.box Bi)]⟩)],[]⟩
def yY:=J9 49 [AfD,Sq6] [Js] (fun a=>kJ N a.1 a.2) [SX N,TS N,UF N,UH N,KT N,PQ N] vO yX f49 N
def Yi:AiL:=[AiJ 3 [5],AiJ 34 [5,17,18,19],AiJ 53 [5,7,8,17,18,19]]
def Zd:Lk:=⟨[(53,⟨[(5,.i),(7,.c AV),(8,.c xs),(17,.i),(18,.i),(19,.i)],[(Ai1,.box BB)]⟩)],[(34,⟨[(5,.c xs),(17,.i),(18,.i),(19,.c x64)],[]⟩,[(0,⟨[(5,.c xs)],[]⟩)])]⟩
def Ze:=J9 115 [.cell false (.sl 204 Tq5)] [Js,Jq] (TW N) [SA N,UH N,KT N,UI N,ZF N,Qr N] Yi Zd f115 N
def ZZ:=J9 20 [Q4,Q4] [JC] (fun a=>UJ N a.1 a.2) [Pg N,Zf N,La N] [] AiM f20 N (bb:=[34,40,46,47,53,54,62,63,69,70])
end
end Go.Proofs.YtpaimpmokhihmaaGreatDoor.Vm
