import Derived.Test.YtpaimpmokhihmaaGreatDoorA18
set_option linter.all false
namespace Go.Proofs.YtpaimpmokhihmaaGreatDoor.Vm
noncomputable section
variable (N:Nat)
open Go.Proofs Go.Proofs.Tryz
def AdT:=JB 5 [Sq0] [Sq1] (VP N) [] f5 N
def lN:=JB 6 [Sq1,Jq] [Jq] (fun a=>Mc N a.1 a.2) [] f6 N
def Wv:=JB 7 [] [Sq2] (fun _=>OL N) [] f7 N
def Na:=JB 14 [Sq2] [JC] (LU N) [] f14 N
def AcS:=JB 267 [Jq] [Jq] (xC N) [] f267 N
def QB:=JB 58 [Sq4] [Sq3,Jq] (Qb N) [] f58 N
def vF:Ajs:=[(3,⟨[3],[([3],3,Ar,AiQ)],[],[(AiL,AiQ)],[]⟩),Ajq 7 [0,3,4],Ajq 11 [],(14,⟨[0,3,4],[([3],3,Ar,AiL)],[],[(42240,AiL)],[]⟩),(30,⟨[0,3,4,5],[([3],3,Ar,AiM)],[],[(AiL,AiM)],[]⟩)]
def yE:Lk:=⟨[],[(14,⟨[(0,.i),(3,.c (xo AiL)),(4,.c x64)],[(AiL,.arr 3 false Ar)]⟩,[(0,⟨[(3,.c (xo AiQ))],[(AiQ,.arr 3 false Ar)]⟩)]),(30,⟨[(0,.i),(3,.c (xo AiM)),(4,.c x64),(5,.c x64)],[(AiM,.arr 3 false Ar)]⟩,[(1,⟨[(0,.i),(3,.c (xo 42240)),(4,.c x64)],[(42240,.arr 3 false Ar)]⟩),(2,⟨[],[]⟩)])]⟩
def yF:=JA 189 [Js] [Sq0] (kG N) [] vF yE f189 N
def MM:=JB 33 [Sq4] [Jq] (LH N) [] f33 N
open Go.Proofs Go.Proofs.Tryz
def y9:Ajs:=[Ajq 3 [3],Ajq 14 [3,8,9,10]]
def AaS:Lk:=⟨[],[(14,⟨[(3,.c (xo AiV)),(8,.c (xo AiV)),(9,.i),(10,.c x64)],[(AiV,.arr 5 false Au)]⟩,[(0,⟨[(3,.c (xo AiV))],[(AiV,.arr 5 false Au)]⟩)])]⟩
def AaT:=JA 215 [Js] [Js] (YN N) [] y9 AaS f215 N
def uQ:Ajs:=[Ajq 3 [3],Ajq 14 [3,8,9,10]]
def xX:Lk:=⟨[],[(14,⟨[(3,.c (xo AiV)),(8,.c (xo AiV)),(9,.i),(10,.c x64)],[(AiV,.arr 5 false Au)]⟩,[(0,⟨[(3,.c (xo AiV))],[(AiV,.arr 5 false Au)]⟩)])]⟩
def xY:=JA 87 [Js] [Js] (Qp N) [] uQ xX f87 N
def zH:Ajs:=[Ajq 3 [],Ajq 18 [0,1,5]]
def AbC:Lk:=⟨[],[(18,⟨[(0,.i),(1,.i),(5,.c x64)],[]⟩,[(0,⟨[],[]⟩)])]⟩
def AbD:=JA 11 [Ri,Ri] [JC] (fun a=>Nh N a.1 a.2) [] zH AbC f11 N
def Wx:=JB 22 [Ri] [Ri] (O8 N) [⟨40,OO N,Rh N⟩] f22 N
def UA:=JB 23 [Ah9] [Ah9] (PU N) [⟨41,NS N,Qh N⟩] f23 N
open Go.Proofs Go.Proofs.Tryz
def vP:=JB 168 [Jq] [Jq] (Wl N) [] f168 N
def Ab2:=JA 169 [Jq,Jq] [Jq] (fun a=>Ze N a.1 a.2) [] [] Ajt f169 N (bb:=[7,11,12,16,20,21])
def ZV:Ajs:=[Ajq 3 [4],(11,⟨[4],[],[(none,4,Au)],[],[]⟩),(18,⟨[3,4,5],[([4],5,Au,AiL)],[],[(37632,AiL)],[]⟩),(30,⟨[4],[],[(none,4,Au)],[],[]⟩)]
def eU:Lk:=⟨[],[(18,⟨[(3,.i),(4,.c (xo AiL)),(5,.c x64)],[(AiL,.arr 5 false Au)]⟩,[(0,⟨[(4,.c (xo AiL))],[(AiL,.arr 5 false Au)]⟩)]),(30,⟨[(4,.c (xl Au))],[]⟩,[(2,⟨[(4,.c (xl Au))],[]⟩)])]⟩
def eX:=JA 116 [Jq] [Js] (Wh N) [] ZV eU f116 N (bb:=[23,28,33,34,39,44,45,46])
def zC:Ajs:=[Ajq 3 [4],Ajq 10 [1,4,8,9,10]]
def Ab9:Lk:=⟨[],[(10,⟨[(1,.i),(4,.c AL),(8,.i),(9,.i),(10,.c x64)],[(AiS,.box [A8,AB,A8])]⟩,[(0,⟨[(4,.c AL)],[(AiS,.box [A8,AB,A8])]⟩)])]⟩
def AbA:=JA 320 [.cell false (.sl 182 Tq2),Js] [Aaj,JC] (fun a=>qX N a.1 a.2) [] zC Ab9 f320 N
def yR:Ajs:=[Ajq 3 [0,2,5,6,8],Ajq 70 [0,2,5,6,8,9],Ajq 97 [0,2,5,6,7]]
def Abz:Lk:=⟨[(97,⟨[(0,.i),(2,.c AA),(5,.c AP),(6,.c x64),(7,.c x64)],[(AiP,.box Bv),(AiT,.box Bv)]⟩)],[(70,⟨[(0,.i),(2,.c AA),(5,.c AP),(6,.c x64),(8,.i),(9,.c x64)],[(AiP,.box Bv),(AiT,.box Bv)]⟩,[(0,⟨[(0,.i),(2,.c AA),(5,.c AP),(6,.c x64),(8,.i)],[(AiP,.box Bv),(AiT,.box Bv)]⟩)])]⟩
def eY:=JA 176 [Js] [Sq3,Js,Jq] (Zc N) [] yR Abz f176 N
def TZ:=JB 173 [JC] [Js] (QK N) [] f173 N
def jF:Ajs:=[Ajq 3 [0,4],Ajq 11 [6],Ajq 22 [0,4,5],Ajq 50 [0,4,6,7]]
def lX:Lk:=⟨[],[(22,⟨[(0,.i),(4,.c x64),(5,.c x64)],[]⟩,[(0,⟨[(0,.i),(4,.c x64)],[]⟩)]),(50,⟨[(0,.i),(4,.i),(6,.c (xo Ajb)),(7,.c x64)],[(Ajb,.arr 5 false Au)]⟩,[(2,⟨[(6,.c (xo Ajb))],[(Ajb,.arr 5 false Au)]⟩)])]⟩
def lY:=JA 174 [Jq] [Js,Jq] (Yi N) [] jF lX f174 N
def Zk:=JB 37 [Jq] [Jq] (Np N) [] f37 N
open Go.Proofs Go.Proofs.Tryz
def UJ:=JB 203 [JC] [Js] (RN N) [] f203 N
def lV:Ajs:=[Ajq 3 [0,4],Ajq 11 [5],Ajq 18 [0,4],Ajq 38 [0,5,34,35]]
def qO:Lk:=⟨[],[(18,⟨[(0,.i),(4,.c x64)],[]⟩,[(0,⟨[(0,.i),(4,.c x64)],[]⟩)]),(38,⟨[(0,.i),(5,.c (xo 38912)),(34,.i),(35,.c x64)],[(38912,.arr 5 false Au)]⟩,[(2,⟨[(5,.c (xo 38912))],[(38912,.arr 5 false Au)]⟩)])]⟩
def Xd:=JA 205 [Jq] [Js,Jq] (Uy N) [] lV qO f205 N
def V8:=JB 82 [.box [(false,.bool)]] [JC] (SN N) [] f82 N
def We (N n:Nat):Sig:=.of [.cell false (.int .i64)] [.cell false .str] (fun a=>TW N n a)
def Xe (N:Nat): ∀ n,Spec Tryz.prog 25 (We N n)
 | 0=>gU (C:=ctx Tryz.prog [] []) (fn:=f25) (OG (gs:=[]) trivial)
 | n+1=>O9 (C:=ctx Tryz.prog ((25,We N n)::(ksp [])) []) (L:=⟨[],[]⟩) (fn:=f25) (N:=N) (OG ⟨Xe N n,(Rz _)⟩)
def X4:Sig:=We N N
def Yh (N:Nat):Spec Tryz.prog 25 (X4 N):=Xe N N
def yT:Ajs:=[(3,⟨[4],[([4],3,Ar,AiO)],[],[(AiL,AiO)],[]⟩),(11,⟨[0,4,6,8],[([4],3,Ar,AiN)],[],[(AiM,AiN)],[]⟩),(18,⟨[0,4,5,6],[([4],3,Ar,AiL)],[],[(53760,AiL)],[]⟩),(58,⟨[0,4,6,7,8,9],[([4],3,Ar,AiM)],[],[(AiL,AiM)],[]⟩)]
def Ab1:Lk:=⟨[],[(18,⟨[(0,.i),(4,.c (xo AiL)),(5,.c x64),(6,.c x64)],[(AiL,.arr 3 false Ar)]⟩,[(0,⟨[(4,.c (xo AiO))],[(AiO,.arr 3 false Ar)]⟩)]),(58,⟨[(0,.i),(4,.c (xo AiM)),(6,.i),(7,.i),(8,.c x64),(9,.c x64)],[(AiM,.arr 3 false Ar)]⟩,[(2,⟨[(0,.i),(4,.c (xo AiN)),(6,.i),(8,.c x64)],[(AiN,.arr 3 false Ar)]⟩)])]⟩
def fB:=JA 266 [Js] [Sq0,JC] (Zd N) [] yT Ab1 f266 N (bb:=[43,47,48,52,56,57,58,62,88,93,94,99,104,105])
def yV:Ajs:=[Ajq 3 [],Ajq 10 [0,3],Ajq 15 [0,3,5,6,7],Ajq 65 [0,3,4,5,6],Ajq 82 [0,3,5,6,7,8]]
def Ab4:Lk:=⟨[(65,⟨[(0,.i),(3,.c x64),(4,.i),(5,.c x64),(6,.c x64)],[]⟩)],[(10,⟨[(0,.i),(3,.c x64)],[]⟩,[(0,⟨[],[]⟩)]),(82,⟨[(0,.i),(3,.i),(5,.i),(6,.i),(7,.c x64),(8,.c x64)],[]⟩,[(3,⟨[(0,.i),(3,.i),(5,.i),(6,.i),(7,.c x64)],[]⟩)])]⟩
def Ab5:=JA 310 [Js] [JC] (qU N) [] yV Ab4 f310 N (bb:=[87,90,91,94,97,98])
def Uz:=JA 311 [.cell false (.int .u8)] [JC] (Qs N) [] [] Ajt f311 N (bb:=[5,8,9,12,15,16,17,20,23,24])
def vJ:Ajs:=[Ajq 3 [],Ajq 10 [0,1,5]]
def yI:Lk:=⟨[],[(10,⟨[(0,.i),(1,.i),(5,.c x64)],[]⟩,[(0,⟨[],[]⟩)])]⟩
def ZH:=JA 312 [.cell false (.int .u8),Js] [JC] (fun a=>Qu N a.1 a.2) [] vJ yI f312 N
open Go.Proofs Go.Proofs.Tryz
def jP:=JA 165 [AfS] [JC] (PE N) [] [] Ajt f165 N (bb:=[7,11,12,16,17,21,22,26])
def vU:Ajs:=[(3,⟨[5],[([5],9,Aw,AiM)],[],[(AiL,AiM)],[]⟩),(18,⟨[0,1,5,6,7],[([5],9,Aw,AiL)],[],[(40704,AiL)],[]⟩)]
def yZ:Lk:=⟨[],[(18,⟨[(0,.i),(1,.i),(5,.c (xo AiL)),(6,.c x64),(7,.c x64)],[(AiL,.arr 9 false Aw)]⟩,[(0,⟨[(5,.c (xo AiM))],[(AiM,.arr 9 false Aw)]⟩)])]⟩
def ZJ:=JA 345 [Js,.cell false (.int .u8)] [Ri] (fun a=>TF N a.1 a.2) [] vU yZ f345 N
def vT:Ajs:=[Ajq 3 [],Ajq 26 [0,3,4,5]]
def yX:Lk:=⟨[],[(26,⟨[(0,.i),(3,.i),(4,.c xb),(5,.c x64)],[]⟩,[(0,⟨[],[]⟩)])]⟩
def yY:=JA 317 [Js] [JC] (X7 N) [] vT yX f317 N (bb:=[37,39,40,43,54,55])
def qV:=JB 318 [Js] [JC] (U1 N) [] f318 N
def vN:Ajs:=[Ajq 3 [3],Ajq 14 [3,8,9]]
def yN:Lk:=⟨[],[(14,⟨[(3,.c (xo Aje)),(8,.i),(9,.c x64)],[(Aje,.arr 5 false Au)]⟩,[(0,⟨[(3,.c (xo Aje))],[(Aje,.arr 5 false Au)]⟩)])]⟩
def yO:=JA 384 [Js] [Js] (kM N) [] vN yN f384 N
def vX:=JA 167 [Jq] [JC] (fZ N) [] [] Ajt f167 N (bb:=[5,8,9,12,15,16])
def yS:Ajs:=[Ajq 3 [0,6],Ajq 22 [0,6,22,23,24],(77,⟨[6,10],[],[],[(43008,AiN),(46592,AiN),(49408,AiN),(51456,AiN)],[]⟩)]
def Ab0:Lk:=⟨[(77,⟨[(6,.i),(10,.c (xo AiN))],[(AiN,.arr 5 false Au)]⟩)],[(22,⟨[(0,.i),(6,.c xs),(22,.i),(23,.i),(24,.c x64)],[]⟩,[(0,⟨[(0,.i),(6,.c xs)],[]⟩)])]⟩
def Wj:=JA 108 [Jq,Ri] [Js,Jq] (fun a=>RV N a.1 a.2) [] yS Ab0 f108 N
def vO:Ajs:=[(3,⟨[3],[([3],9,Aw,AiO)],[],[(AiL,AiO)],[]⟩),(11,⟨[3,5,6,10,11,12],[([3],9,Aw,AiN)],[],[(AiM,AiN)],[AiN]⟩),(14,⟨[3,10,11,12],[([3],9,Aw,AiL)],[],[(43008,AiL)],[]⟩),Ajq 19 [7],(26,⟨[3,5,6,10,11,12],[([3],9,Aw,AiM)],[],[(AiL,AiM)],[]⟩),Ajq 50 [7,42,43,44]]
def yP:Lk:=⟨[],[(14,⟨[(3,.c (xo AiL)),(10,.i),(11,.i),(12,.c x64)],[(AiL,.arr 9 false Aw)]⟩,[(0,⟨[(3,.c (xo AiO))],[(AiO,.arr 9 false Aw)]⟩)]),(26,⟨[(3,.c (xo AiM)),(5,.i),(6,.c x64),(10,.i),(11,.i),(12,.i)],[(AiM,.arr 9 false Aw)]⟩,[(2,⟨[(3,.c (xo AiN)),(5,.i),(6,.c x64),(10,.i),(11,.i),(12,.i)],[(AiN,.arr 9 true Aw)]⟩)]),(50,⟨[(7,.c xs),(42,.c (xo AiO)),(43,.i),(44,.c x64)],[(AiO,.arr 9 false Aw)]⟩,[(4,⟨[(7,.c xs)],[]⟩)])]⟩
def yQ:=JA 104 [Ri] [Js] (kP N) [] vO yP f104 N
open Go.Proofs Go.Proofs.Tryz
def iZ:Ajs:=[Ajq 17 [0,2,3]]
def lL:Lk:=⟨[(17,⟨[(0,.i),(2,.c AA),(3,.c xs)],[(AiP,.box [(xo AiW)]),(AiW,.KO 91 false Aq)]⟩)],[]⟩
def lM:=JA 16 [Jq] [Sq6] (SX N) [⟨25,X4 N,Yh N⟩] iZ lL f16 N
def Wi:=JB 260 [Js] [JC] (Tc N) [fB N] f260 N
def fA:Ajs:=[Ajq 7 [],Ajq 25 [0,1,11],Ajq 30 [0,1,5]]
def jG:Lk:=⟨[(25,⟨[(0,.i),(1,.i),(11,.c xb)],[]⟩)],[(30,⟨[(0,.i),(1,.i),(5,.c x64)],[]⟩,[(1,⟨[],[]⟩)])]⟩
def jH:=JA 261 [Jq,Js] [JC] (fun a=>RU N a.1 a.2) [Ab5 N,Uz N,ZH N] fA jG f261 N (bb:=[22,27,32,33,34,37,43,44,50,51])
def Ab7:Ajs:=[Ajq 3 [],Ajq 11 [10,11,12],Ajq 18 [10,11,12],Ajq 38 [4,5,10,11,12]]
def AcC:Lk:=⟨[],[(18,⟨[(10,.i),(11,.i),(12,.c x64)],[]⟩,[(0,⟨[],[]⟩)]),(38,⟨[(4,.i),(5,.c x64),(10,.i),(11,.i),(12,.i)],[]⟩,[(2,⟨[(10,.i),(11,.i),(12,.i)],[]⟩)])]⟩
def TE:=JA 343 [Js] [JC] (MS N) [ZJ N,Uz N] Ab7 AcC f343 N (bb:=[19,23,24,28,29,36])
def yM:Ajs:=[(3,⟨[3],[([3],5,Au,AiM)],[],[(AiL,AiM)],[]⟩),(18,⟨[0,3,4],[([3],5,Au,AiL)],[],[(41984,AiL)],[]⟩)]
def Abx:Lk:=⟨[],[(18,⟨[(0,.i),(3,.c (xo AiL)),(4,.c x64)],[(AiL,.arr 5 false Au)]⟩,[(0,⟨[(3,.c (xo AiM))],[(AiM,.arr 5 false Au)]⟩)])]⟩
def Aby:=JA 372 [Js] [Js] (Zb N) [yO N] yM Abx f372 N
def KW:=JB 103 [Jq,Ri] [Js] (fun a=>Kr N a.1 a.2) [Wj N] f103 N
def eP:Ajs:=[(3,⟨[6],[([6],5,Au,AiY)],[],[(AiL,AiY)],[]⟩),(11,⟨[6,9,30,31,32],[([6],5,Au,AiN)],[],[(AiR,AiN)],[]⟩),(19,⟨[6,9,30,31,32],[([6],5,Au,AiQ)],[],[(AiO,AiQ)],[]⟩),(30,⟨[6,30,31,32],[([6],5,Au,AiL)],[],[(48384,AiL)],[]⟩),(42,⟨[6,8,9,30,31,32],[([9],5,Au,AiM),([6],5,Au,AiR)],[],[(43264,AiM),(AiL,AiR)],[]⟩),(58,⟨[6,9,10,30,31,32],[([6],5,Au,AiO)],[],[(AiN,AiO)],[]⟩)]
def jC:Lk:=⟨[],[(30,⟨[(6,.c (xo AiL)),(30,.c (xo Ajb)),(31,.i),(32,.c x64)],[(Ajb,.arr 3 false Ar),(AiL,.arr 5 false Au)]⟩,[(0,⟨[(6,.c (xo AiY))],[(AiY,.arr 5 false Au)]⟩)]),(42,⟨[(6,.c (xo AiR)),(8,.c x64),(9,.c (xo AiM)),(30,.c (xo Ajb)),(31,.i),(32,.i)],[(Ajb,.arr 3 false Ar),(AiM,.arr 5 false Au),(AiR,.arr 5 false Au)]⟩,[(2,⟨[(6,.c (xo AiN)),(9,.c (xo 43264)),(30,.c (xo Ajb)),(31,.i),(32,.i)],[(Ajb,.arr 3 false Ar),(43264,.arr 5 false Au),(AiN,.arr 5 false Au)]⟩)]),(58,⟨[(6,.c (xo AiO)),(9,.c (xo 43264)),(10,.c x64),(30,.c (xo Ajb)),(31,.i),(32,.i)],[(Ajb,.arr 3 false Ar),(43264,.arr 5 false Au),(AiO,.arr 5 false Au)]⟩,[(4,⟨[(6,.c (xo AiQ)),(9,.c (xo 43264)),(30,.c (xo Ajb)),(31,.i),(32,.i)],[(Ajb,.arr 3 false Ar),(43264,.arr 5 false Au),(AiQ,.arr 5 false Au)]⟩)])]⟩
def jD:=JA 175 [Js] [Js,Jq] (Xf N) [fB N] eP jC f175 N
def vK:Ajs:=[Ajq 3 [0,2,4,5],Ajq 11 [0,2,4,5,6],Ajq 22 [0,2,4,5],Ajq 38 [0,2,4,5,6]]
def yK:Lk:=⟨[],[(22,⟨[(0,.i),(2,.c AA),(4,.i),(5,.c x64)],[(AiP,.box Bo)]⟩,[(0,⟨[(0,.i),(2,.c AA),(4,.i),(5,.c x64)],[(AiP,.box Bo)]⟩)]),(38,⟨[(0,.i),(2,.c AA),(4,.c x64),(5,.i),(6,.c x64)],[(AiP,.box Bo)]⟩,[(2,⟨[(0,.i),(2,.c AA),(4,.c x64),(5,.i),(6,.c x64)],[(AiP,.box Bo)]⟩)])]⟩
def yL:=JA 106 [Jq] [Sq8,Jq] (kL N) [vP N,Ab2 N] vK yK f106 N
open Go.Proofs Go.Proofs.Tryz
def Ab3:Ajs:=[Ajq 3 [5],Ajq 10 [1,5]]
def AcA:Lk:=⟨[],[(10,⟨[(1,.i),(5,.c xs)],[]⟩,[(0,⟨[(5,.c xs)],[]⟩)])]⟩
def AcB:=JA 107 [Jq,Jq] [Js] (fun a=>OT N a.1 a.2) [⟨25,X4 N,Yh N⟩] Ab3 AcA f107 N
def Qv:=JB 50 [Jq,Ri] [Js,Jq] (fun a=>NF N a.1 a.2) [Wj N] f50 N
def kN:=JB 118 [Js] [Sq3,Jq] (eQ N) [eY N] f118 N
def vS:Ajs:=[Ajq 3 [],Ajq 18 [1,5]]
def yU:Lk:=⟨[],[(18,⟨[(1,.i),(5,.c xs)],[]⟩,[(0,⟨[],[]⟩)])]⟩
def Td (N n:Nat):Sig:=.of [Sq3,.cell false (.int .i64)] [.cell false (.int .i64)] (fun a=>X5 N n a.1 a.2)
def UL (N:Nat): ∀ n,Spec Tryz.prog 347 (Td N n)
 | 0=>gU (C:=ctx Tryz.prog [] []) (fn:=f347) (OG (gs:=[]) trivial)
 | n+1=>O9 (C:=ctx Tryz.prog ((347,Td N n)::(ksp [eY N])) vS) (L:=yU) (fn:=f347) (N:=N) (OG ⟨UL N n,(Rz _)⟩)
def ZI:Sig:=Td N N
def mD (N:Nat):Spec Tryz.prog 347 (ZI N):=UL N N
def QP:Ajs:=[Ajq 3 [0,3,5],(11,⟨[8],[([8],34,Tq6,AiO)],[],[(AiN,AiO)],[]⟩),Ajq 22 [0,3,5,15,16,17],(46,⟨[3,5,8,27,28,29],[([8],34,Tq6,AiN)],[],[(45056,AiN)],[]⟩)]
def Rf:Lk:=⟨[],[(22,⟨[(0,.c AU),(3,.c AO),(5,.c (xo Ajg)),(15,.i),(16,.i),(17,.c x64)],[(0,.box Bj),(101,.arr 34 true Tq6),(102,.mp Tq7 Ar),(AiU,.box [x64,(xl Ar)]),(Ajg,.mp Ar Az)]⟩,[(0,⟨[(0,.c AU),(3,.c AO),(5,.c (xo Ajg))],[(0,.box Bj),(101,.arr 34 true Tq6),(102,.mp Tq7 Ar),(AiU,.box [x64,(xl Ar)]),(Ajg,.mp Ar Az)]⟩)]),(46,⟨[(3,.c AO),(5,.c (xo Ajg)),(8,.c (xo AiN)),(27,.c (xo 101)),(28,.i),(29,.c x64)],[(0,.box Bj),(101,.arr 34 true Tq6),(102,.mp Tq7 Ar),(AiU,.box [x64,(xl Ar)]),(Ajg,.mp Ar Az),(AiN,.arr 34 false Tq6)]⟩,[(2,⟨[(8,.c (xo AiO))],[(0,.box Bj),(101,.arr 34 true Tq6),(102,.mp Tq7 Ar),(AiO,.arr 34 false Tq6)]⟩)])]⟩
def NV:=JA 18 [Sq2,AfU] [.cell false (.sl 34 Tq6)] (fun a=>KU N a.1 a.2) [Na N] QP Rf f18 N
def AaN:=JB 152 [Js,Js] [JC] (fun a=>YL N a.1 a.2) [AaT N] f152 N
def Ue:=JB 21 [Sq2] [Jq] (PG N) [Na N] f21 N
open Go.Proofs Go.Proofs.Tryz
def qZ:=JB 113 [Jq,JC] [Js] (fun a=>Q5 N a.1 a.2) [TZ N,KW N] f113 N
def ZK:=JB 114 [Jq,Jq] [Js] (fun a=>X9 N a.1 a.2) [lY N,KW N] f114 N
def zG:=JB 55 [Js,Jq] [Sq3,Jq] (fun a=>kS N a.1 a.2) [kN N] f55 N
def Tm:Ajs:=[(3,⟨[4,5],[],[],[(34049,1004128),(34050,AiR),(34051,AiM),(AiL,1004128),(Ajc,AiR),(Aji,AiM)],[]⟩),(14,⟨[4,5,10,11,12],[],[],[(34049,AiL),(34050,Ajc),(34051,Aji),(Ajd,Aji),(40960,AiL),(43776,Ajc)],[]⟩)]
def Uf:Lk:=⟨[],[(14,⟨[(4,.c AL),(5,.c AP),(10,.i),(11,.i),(12,.c x64)],[(0,.box Bj),(101,.arr 34 true Tq6),(102,.mp Tq7 Ar),(AiS,.box [(xo AiZ),(xo 33794),(xo Ajh)]),(AiZ,.KO 9 false Aw),(33794,.KO 9 false Aw),(Ajh,.KO 32 false (.str Aw)),(AiT,.box [(xo AiL),(xo Ajc),(xo Aji)]),(AiL,.arr 9 false Aw),(Ajc,.arr 9 false Aw),(Aji,.arr 32 false (.str Aw))]⟩,[(0,⟨[(4,.c AL),(5,.c AP)],[(0,.box Bj),(101,.arr 34 true Tq6),(102,.mp Tq7 Ar),(AiS,.box [(xo AiZ),(xo 33794),(xo Ajh)]),(AiZ,.KO 9 false Aw),(33794,.KO 9 false Aw),(Ajh,.KO 32 false (.str Aw)),(AiT,.box [(xo 1004128),(xo AiR),(xo AiM)]),(AiM,.arr 32 false (.str Aw)),(AiR,.arr 9 false Aw),(1004128,.arr 9 false Aw)]⟩)])]⟩
def Ug:=JA 13 [Sq2,AfU] [AiF] (fun a=>PH N a.1 a.2) [NV N,Wx N,UA N] Tm Uf f13 N
open Go.Proofs Go.Proofs.Tryz
def Ach:=JB 292 [Jq] [JC] (bT N) [] f292 N
def NI:=JB 62 [Sq4,Jq] [Sq3,JC] (fun a=>Lp N a.1 a.2) [] f62 N
def UH:=JB 124 [Sq4] [Jq] (Oi N) [] f124 N
def AaB:Ajs:=[Ajq 3 [3],Ajq 14 [3,9,10,11]]
def Aco:Lk:=⟨[],[(14,⟨[(3,.c (xo Aja)),(9,.i),(10,.i),(11,.c x64)],[(Aja,.mp Aw Ar)]⟩,[(0,⟨[(3,.c (xo Aja))],[(Aja,.mp Aw Ar)]⟩)])]⟩
def Acp:=JA 201 [.cell false (.sl 182 Tq2)] [Sq9] (wP N) [] AaB Aco f201 N
def Yf:=JB 218 [Js] [JC,Jq] (VY N) [] f218 N
def nN:Ajs:=[(3,⟨[2,3],[([3],91,Aq,AiM)],[],[(AiL,AiM)],[]⟩),(14,⟨[2,3,7,8,9],[([3],91,Aq,AiL)],[],[(37120,AiL)],[]⟩)]
def sJ:Lk:=⟨[],[(14,⟨[(2,.c AA),(3,.c (xo AiL)),(7,.i),(8,.i),(9,.c x64)],[(AiP,.box [(xo AiW)]),(AiW,.KO 91 false Aq),(AiL,.arr 91 false Aq)]⟩,[(0,⟨[(2,.c AA),(3,.c (xo AiM))],[(AiP,.box [(xo AiW)]),(AiW,.KO 91 false Aq),(AiM,.arr 91 false Aq)]⟩)])]⟩
def sK:=JA 183 [Sq6] [Sq6] (aZ N) [] nN sJ f183 N
def ZF:=JB 294 [Jq] [Jq] (Xz N) [] f294 N
def oW:=JB 84 [Jq] [Jq] (lI N) [] f84 N
open Go.Proofs Go.Proofs.Tryz
def AbL:Ajs:=[(3,⟨[3],[([3],5,Au,AiO)],[],[(AiL,AiO)],[]⟩),(18,⟨[3,4,8,9,10],[([3],5,Au,AiL)],[],[(41472,AiL)],[]⟩),(45,⟨[3,4,6,8,9,10],[([3],5,Au,AiM)],[],[(Ajf,AiM),(AiL,AiM)],[]⟩),(53,⟨[3,4,6,8,9,10],[([3],5,Au,AiN)],[],[(AiM,AiN)],[]⟩)]
def AcL:Lk:=⟨[(45,⟨[(3,.c (xo AiM)),(4,.c xb),(6,.i),(8,.c (xo Aja)),(9,.i),(10,.i)],[(Aja,.arr 5 false Au),(AiM,.arr 5 false Au)]⟩),(53,⟨[(3,.c (xo AiN)),(4,.i),(6,.c x8),(8,.c (xo Aja)),(9,.i),(10,.i)],[(Aja,.arr 5 false Au),(AiN,.arr 5 false Au)]⟩)],[(18,⟨[(3,.c (xo AiL)),(4,.c xb),(8,.c (xo Aja)),(9,.i),(10,.c x64)],[(Aja,.arr 5 false Au),(AiL,.arr 5 false Au)]⟩,[(0,⟨[(3,.c (xo AiO))],[(AiO,.arr 5 false Au)]⟩)])]⟩
def AcM:=JA 334 [Js] [Js] (iC N) [] AbL AcL f334 N
def AeK:=JB 195 [Jq] [Jq] (sH N) [] f195 N
def sS:=JB 134 [Q8] [JC] (bG N) [] f134 N
def MO:=JB 76 [.box [(false,.bool)],Js,Jq] [Js] (fun a=>JY N a.1 a.2.1 a.2.2) [] f76 N
def AcR:Ajs:=[Ajq 3 [0,1,6],Ajq 22 [0,1,6,21,22,23],(77,⟨[1,9],[],[],[(45568,AiN),(47616,AiN),(49664,AiN),(52480,AiN)],[]⟩)]
def Ae1:Lk:=⟨[(77,⟨[(1,.i),(9,.c (xo AiN))],[(AiN,.arr 5 false Au)]⟩)],[(22,⟨[(0,.i),(1,.i),(6,.c x64),(21,.i),(22,.i),(23,.c x64)],[]⟩,[(0,⟨[(0,.i),(1,.i),(6,.c x64)],[]⟩)])]⟩
def Ox:=JA 139 [Jq,Ri] [Js,Jq] (fun a=>L6 N a.1 a.2) [⟨191,Tn N,UT N⟩] AcR Ae1 f139 N
def eH:Ajs:=[Ajq 3 [0,3],(11,⟨[5],[([5],5,Au,AiO)],[],[(AiN,AiO)],[]⟩),Ajq 14 [0,3,4],(34,⟨[0,3,5,18,19],[([5],5,Au,AiN)],[],[(41216,AiN)],[]⟩)]
def jB:Lk:=⟨[],[(14,⟨[(0,.i),(3,.c x64),(4,.c x64)],[]⟩,[(0,⟨[(0,.i),(3,.c x64)],[]⟩)]),(34,⟨[(0,.i),(3,.i),(5,.c (xo AiN)),(18,.i),(19,.c x64)],[(AiN,.arr 5 false Au)]⟩,[(2,⟨[(5,.c (xo AiO))],[(AiO,.arr 5 false Au)]⟩)])]⟩
def UK:=JA 136 [Jq] [Js] (RP N) [] eH jB f136 N
def Aci:Ajs:=[(3,⟨[0,1,7],[],[],[(0,AiM),(AiL,AiM)],[]⟩),Ajq 11 [0],(14,⟨[0,1,2,7,8],[],[],[(0,AiL),(37632,AiL)],[]⟩),Ajq 30 [0,1,7,9]]
def Adv:Lk:=⟨[],[(14,⟨[(0,.c (xo AiL)),(1,.i),(2,.i),(7,.i),(8,.c x64)],[(AiL,.arr 5 false Au)]⟩,[(0,⟨[(0,.c (xo AiM)),(1,.i),(7,.i)],[(AiM,.arr 5 false Au)]⟩)]),(30,⟨[(0,.c (xo AiM)),(1,.c x64),(7,.i),(9,.c x64)],[(AiM,.arr 5 false Au)]⟩,[(2,⟨[(0,.c (xo AiM))],[(AiM,.arr 5 false Au)]⟩)])]⟩
def Adw:=JA 143 [Ah6,Jq,Jq] [Ah6] (fun a=>Y8 N a.1 a.2.1 a.2.2) [] Aci Adv f143 N
def Aed:Ajs:=[Ajq 3 [0,1,5],Ajq 10 [0,1,5],(11,⟨[0,1],[],[],[(0,AiO),(AiN,AiO)],[]⟩),(22,⟨[0,1,6],[],[],[(0,AiN),(40704,AiN)],[]⟩)]
def Af1:Lk:=⟨[],[(10,⟨[(0,.c (xo 0)),(1,.i),(5,.c x64)],[(0,.arr 5 true Au)]⟩,[(0,⟨[(0,.c (xo 0)),(1,.i),(5,.c x64)],[(0,.arr 5 true Au)]⟩)]),(22,⟨[(0,.c (xo AiN)),(1,.i),(6,.c x64)],[(AiN,.arr 5 true Au)]⟩,[(2,⟨[(0,.c (xo AiO)),(1,.i)],[(AiO,.arr 5 true Au)]⟩)])]⟩
def Af2:=JA 197 [Ah7,Jq] [Ah7] (fun a=>vG N a.1 a.2) [] Aed Af1 f197 N
open Go.Proofs Go.Proofs.Tryz
def ZG:=JA 210 [.cell false (.int .u8)] [JC] (X0 N) [] [] Ajt f210 N (bb:=[5,8,9,12,15,16])
def dM:=JB 211 [.cell false (.int .u8)] [JC] (Vb N) [] f211 N
def y5:=JB 330 [Js] [Js,Js] (jZ N) [] f330 N
def AdE:=JB 331 [Js,Jq] [JC] (fun a=>YK N a.1 a.2) [] f331 N
def uT:=JB 287 [Js] [JC] (VH N) [] f287 N
def Abs:=JB 129 [Js,Jq] [JC] (fun a=>YY N a.1 a.2) [] f129 N
def Aei:=JB 323 [Js,Jq] [JC] (fun a=>YX N a.1 a.2) [] f323 N
def nY:=JB 68 [Jq,Jq,Jq] [JC] (fun a=>NH N a.1 a.2.1 a.2.2) [] f68 N
open Go.Proofs Go.Proofs.Tryz
def y8:Ajs:=[Ajq 3 [],Ajq 18 [32,33,34]]
def AaQ:Lk:=⟨[],[(18,⟨[(32,.c (xo 40960)),(33,.i),(34,.c x64)],[(40960,.arr 5 false Au)]⟩,[(0,⟨[],[]⟩)])]⟩
def AaR:=JA 150 [Js] [JC] (YM N) [⟨209,PW N,QX N⟩,ZG N,dM N,⟨212,P8 N,Qw N⟩] y8 AaQ f150 N (bb:=[9,13,14,18,19,26,27,30])
def y7:Ajs:=[Ajq 3 [],Ajq 18 [27,28,29]]
def AaO:Lk:=⟨[],[(18,⟨[(27,.c (xo 39680)),(28,.i),(29,.c x64)],[(39680,.arr 5 false Au)]⟩,[(0,⟨[],[]⟩)])]⟩
def AaP:=JA 214 [Js] [JC] (pI N) [ZG N,dM N] y7 AaO f214 N (bb:=[8,12,13,17,18,25])
def xZ:Ajs:=[Ajq 3 [],Ajq 26 [3,4,5,6]]
def AaL:Lk:=⟨[],[(26,⟨[(3,.i),(4,.i),(5,.c xb),(6,.c x64)],[]⟩,[(0,⟨[],[]⟩)])]⟩
def AaM:=JA 286 [Js] [JC] (YJ N) [y5 N,AdE N] xZ AaL f286 N (bb:=[32,34,35,38,42,43])
def bV:Ajs:=[Ajq 29 [8,9]]
def iV:Lk:=⟨[(29,⟨[(8,.i),(9,.c x64)],[(0,.box [Bh])]⟩)],[]⟩
def iW:=JA 271 [Sq4,Jq] [JC,Jq] (fun a=>MH N a.1 a.2) [NI N,Yf N] bV iV f271 N
def kJ:=JB 66 [Js] [Js,Jq,Jq] (eF N) [Abs N] f66 N
def AbM:=JB 295 [Js,Js] [JC] (fun a=>Zr N a.1 a.2) [AcM N] f295 N
def Aaw:=JB 133 [Jq] [JC] (nV N) [AeK N] f133 N
def Lr:=JB 79 [.box [(false,.bool)],Jq,Ri] [Js] (fun a=>Ku N a.1 a.2.1 a.2.2) [Ox N,MO N] f79 N
open Go.Proofs Go.Proofs.Tryz
def qN:Ajs:=[Ajq 3 [4],Ajq 30 [0,4,42,43]]
def vH:Lk:=⟨[],[(30,⟨[(0,.i),(4,.c x64),(42,.i),(43,.c x64)],[]⟩,[(0,⟨[(4,.c x64)],[]⟩)])]⟩
def Yg:=JA 121 [Js] [Jq,Jq] (VZ N) [] qN vH f121 N (bb:=[8,12,16,20,21,25,29,30,31,32])
def Aeb:Ajs:=[Ajq 3 [3],Ajq 22 [0,3,4]]
def Afz:Lk:=⟨[],[(22,⟨[(0,.i),(3,.c x64),(4,.c x64)],[]⟩,[(0,⟨[(3,.c x64)],[]⟩)])]⟩
def Af0:=JA 288 [Js] [Jq] (Ada N) [] Aeb Afz f288 N (bb:=[7,11,12,16,20,21])
def Aee:=JB 289 [Jq,Jq] [JC] (fun a=>Abm N a.1 a.2) [] f289 N
def zL:=JA 281 [.cell false (.int .u8)] [JC] (kT N) [] [] Ajt f281 N (bb:=[5,8,9,12,15,16,17,20,23,24])
def wB:=JB 282 [.cell false (.int .u8)] [JC] (WA N) [] f282 N
def mQ:Ajs:=[Ajq 3 [],Ajq 10 [0,3]]
def rH:Lk:=⟨[],[(10,⟨[(0,.i),(3,.c x64)],[]⟩,[(0,⟨[],[]⟩)])]⟩
def rJ:=JA 178 [.cell false (.sl 100 Tq0)] [JC] (ZO N) [] mQ rH f178 N
def tX:Ajs:=[Ajq 3 [3],Ajq 14 [3,7,8,9]]
def xP:Lk:=⟨[],[(14,⟨[(3,.c x64),(7,.c (xo AiV)),(8,.i),(9,.c x64)],[(AiV,.arr 5 false Au)]⟩,[(0,⟨[(3,.c x64)],[]⟩)])]⟩
def ZB:=JA 180 [Js] [Jq] (Oz N) [] tX xP f180 N
def o8:=JB 291 [Jq] [Jq] (Ur N) [] f291 N
open Go.Proofs Go.Proofs.Tryz
def AcQ:Ajs:=[Ajq 3 [0,2,5,6,7,8,9],Ajq 74 [0,2,5,6,7,8,9,50,51,52],Ajq 101 [0,2,5,6,7,8]]
def Ae0:Lk:=⟨[(101,⟨[(0,.i),(2,.c AA),(5,.c AP),(6,.i),(7,.c x64),(8,.c x64)],[(AiP,.box Bv),(AiT,.box Bv)]⟩)],[(74,⟨[(0,.i),(2,.c AA),(5,.c AP),(6,.i),(7,.c x64),(8,.i),(9,.i),(50,.c (xo 45568)),(51,.i),(52,.c x64)],[(AiP,.box Bv),(AiT,.box Bv),(45568,.arr 5 false Au)]⟩,[(0,⟨[(0,.i),(2,.c AA),(5,.c AP),(6,.i),(7,.c x64),(8,.i),(9,.i)],[(AiP,.box Bv),(AiT,.box Bv)]⟩)])]⟩
def Zv:=JA 177 [Js] [Sq3,Js,Jq] (Zu N) [AcS N] AcQ Ae0 f177 N
def MN:=JB 29 [Sq4,Jq] [Sq3,Jq] (fun a=>LJ N a.1 a.2) [QB N] f29 N
def yC:Ajs:=[(3,⟨[7],[([7],9,Aw,AiM)],[],[(AiL,AiM)],[]⟩),(34,⟨[7,36,37,38],[([7],9,Aw,AiL)],[],[(45056,AiL)],[]⟩)]
def Abk:Lk:=⟨[],[(34,⟨[(7,.c (xo AiL)),(36,.c (xo 41728)),(37,.i),(38,.c x64)],[(41728,.arr 3 false Ar),(AiL,.arr 9 false Aw)]⟩,[(0,⟨[(7,.c (xo AiM))],[(AiM,.arr 9 false Aw)]⟩)])]⟩
def VV:=JA 128 [Js] [Js,Jq] (Vf N) [yF N,⟨190,Yq N,jQ N⟩,⟨191,Tn N,UT N⟩] yC Abk f128 N
def Ac8:Ajs:=[(3,⟨[4],[([4],3,Ar,AiM)],[],[(AiL,AiM)],[]⟩),(26,⟨[4,18,19,20],[([4],3,Ar,AiL)],[],[(40704,AiL)],[]⟩)]
def Aec:Lk:=⟨[],[(26,⟨[(4,.c (xo AiL)),(18,.i),(19,.i),(20,.c x64)],[(AiL,.arr 3 false Ar)]⟩,[(0,⟨[(4,.c (xo AiM))],[(AiM,.arr 3 false Ar)]⟩)])]⟩
def qH:=JA 196 [Js] [Sq5] (lT N) [⟨213,PI N,Ui N⟩,Af0 N,Aee N] Ac8 Aec f196 N
def vZ:=JB 280 [.cell false (.int .u8)] [JC] (W9 N) [zL N,⟨212,P8 N,Qw N⟩] f280 N
def bW (N n:Nat):Sig:=.of [.cell false (.int .i64)] [.cell false (.int .i64)] (tY N n)
def oC (N:Nat):WT Tryz.prog (bW N):=tZ (Jp:=[.cell false (.int .i64)]) (Jz:=[.cell false (.int .i64)]) (l:=[(291,fun a=>Ur N a)]) ⟨(o8 N).h,trivial⟩
def ZA:=JB 200 [Jq,Jq] [Jq] (fun a=>Px N a.1 a.2) [Ach N] f200 N
def Aaz:=JB 182 [Jq,Js] [Sq8] (fun a=>o9 N a.1 a.2) [ZB N] f182 N
open Go.Proofs Go.Proofs.Tryz
def yG:Ajs:=[Ajq 3 [8],Ajq 46 [4,8,35,36]]
def Abr:Lk:=⟨[],[(46,⟨[(4,.i),(8,.c x64),(35,.i),(36,.c x64)],[]⟩,[(0,⟨[(8,.c x64)],[]⟩)])]⟩
def eG:=JA 272 [Js] [Jq,Jq] (Vh N) [kJ N,Aei N] yG Abr f272 N
def nX:=JB 32 [Sq4] [Js,Jq] (Z4 N) [MN N,kJ N] f32 N
def Aa2:Ajs:=[Ajq 3 [],Ajq 10 [3,7,8,9]]
def Ack:Lk:=⟨[],[(10,⟨[(3,.c AO),(7,.i),(8,.i),(9,.c x64)],[(AiU,.box [xs,x64,xs])]⟩,[(0,⟨[],[]⟩)])]⟩
def Acl:=JA 207 [.cell false (.sl 90 Tq1),Sq7] [JC] (fun a=>WY N a.1 a.2) [AbM N] Aa2 Ack f207 N
def NJ:=JB 73 [.box [(false,.bool)],Ri] [Js] (fun a=>L8 N a.1 a.2) [Lr N] f73 N
def QC:=JB 74 [.box [(false,.bool)],Jq] [Js] (fun a=>OH N a.1 a.2) [UK N,Lr N] f74 N
def yD:Ajs:=[(3,⟨[5],[],[],[(37888,AiM),(AiL,AiM)],[]⟩),(26,⟨[5,22,23,24],[],[],[(37888,AiL),(40448,AiL)],[]⟩)]
def Abl:Lk:=⟨[],[(26,⟨[(5,.c (xo AiL)),(22,.i),(23,.i),(24,.c x64)],[(AiL,.arr 5 true Au)]⟩,[(0,⟨[(5,.c (xo AiM))],[(AiM,.arr 5 true Au)]⟩)])]⟩
def VW:=JA 138 [Js] [Js,Jq] (Vg N) [qH N,Af2 N] yD Abl f138 N
def iY:=JB 206 [.box [(false,.bool)],Jq,JC] [Js] (fun a=>P9 N a.1 a.2.1 a.2.2) [UJ N,Lr N] f206 N
def Wp:Ajs:=[Ajq 3 [],Ajq 10 [0,6,7,8],Ajq 11 [0,6,7,8],Ajq 46 [0,3,4,5,6,7,8]]
def WN:Lk:=⟨[],[(10,⟨[(0,.i),(6,.i),(7,.i),(8,.c x64)],[]⟩,[(0,⟨[],[]⟩)]),(46,⟨[(0,.i),(3,.i),(4,.c AL),(5,.c x64),(6,.i),(7,.i),(8,.i)],[(AiS,.box [xs,x64,xs])]⟩,[(2,⟨[(0,.i),(6,.i),(7,.i),(8,.i)],[]⟩)])]⟩
def WO:=JA 164 [.cell false (.sl 90 Tq1)] [Jq] (QV N) [Wi N,jH N] Wp WN f164 N
open Go.Proofs Go.Proofs.Tryz
def Uj:=JB 119 [Js] [Sq3,Jq] (Vy N) [Zv N] f119 N
def AcP:Ajs:=[(3,⟨[4],[([4],100,Tq0,AiM)],[],[(AiL,AiM)],[]⟩),(10,⟨[0,4],[([4],100,Tq0,AiL)],[],[(Ajf,AiL)],[]⟩)]
def Aez:Lk:=⟨[],[(10,⟨[(0,.c xs),(4,.c (xo AiL))],[(AiL,.arr 100 false Tq0)]⟩,[(0,⟨[(4,.c (xo AiM))],[(AiM,.arr 100 false Tq0)]⟩)])]⟩
def Ov:=JA 120 [Js] [.cell false (.sl 100 Tq0),Jq] (Pg N) [Zv N] AcP Aez f120 N
def bH:=JB 59 [Sq4] [Jq,Jq] (Y6 N) [MN N,Yg N] f59 N
def kF:=JB 192 [Js] [JC] (dY N) [qH N] f192 N
def wO (N n:Nat):Sig:=.of [.cell false (.int .u8)] [.cell false .bool] (AcY N n)
def Adz (N:Nat):WT Tryz.prog (wO N):=tZ (Jp:=[.cell false (.int .u8)]) (Jz:=[.cell false .bool]) (l:=[(280,fun a=>W9 N a),(282,fun a=>WA N a)]) ⟨(vZ N).h,(wB N).h,trivial⟩
def Z9:=JA 199 [Jq] [Jq] (TA N) [] [] Ajt f199 N (dd:=[(7,bW N),(12,bW N)]) (hD:=⟨oC N,oC N,trivial⟩)
def zO:Ajs:=[Ajq 3 [],Ajq 18 [1,5]]
def AbP:Lk:=⟨[],[(18,⟨[(1,.i),(5,.c xs)],[]⟩,[(0,⟨[],[]⟩)])]⟩
def UE (N n:Nat):Sig:=.of [Sq3,.cell false (.int .i64)] [.cell false (.int .i64)] (fun a=>Zw N n a.1 a.2)
def WC (N:Nat): ∀ n,Spec Tryz.prog 293 (UE N n)
 | 0=>gU (C:=ctx Tryz.prog [] []) (fn:=f293) (OG (gs:=[]) trivial)
 | n+1=>O9 (C:=ctx Tryz.prog ((293,UE N n)::(ksp [Zv N])) zO) (L:=AbP) (fn:=f293) (N:=N) (OG ⟨WC N n,(Rz _)⟩)
def iD:Sig:=UE N N
def rO (N:Nat):Spec Tryz.prog 293 (iD N):=WC N N
def Acz:Ajs:=[Ajq 3 [],Ajq 18 [9,10,11]]
def AdD:Lk:=⟨[],[(18,⟨[(9,.i),(10,.i),(11,.c x64)],[]⟩,[(0,⟨[],[]⟩)])]⟩
def Va:=JA 151 [Js] [JC] (O6 N) [⟨213,PI N,Ui N⟩,AaP N] Acz AdD f151 N
open Go.Proofs Go.Proofs.Tryz
def TQ:=JB 56 [Js,Jq] [Sq3,Jq] (fun a=>Vr N a.1 a.2) [Uj N] f56 N
def NG (N:Nat):Alt:=.of [.cell false .str] [Sq4,.cell false (.int .i64)] [.cell false .ptr,.cell false (.int .i64)] (fun a=>PM N a)
def OU (N:Nat):Spec Tryz.prog 57 (NG N).1/\Spec Tryz.prog 57 (NG N).2.1:=Yv (C:=ctx Tryz.prog (ksp [Ov N]) []) (L:=⟨[],[]⟩) (fn:=f57) (N:=N) (OG (Rz _)) (by kernel_rfl) (by kernel_rfl) (fun a=>by kernel_rfl)
def VN:=JB 65 [Sq3] [Jq] (Qq N) [Ov N,VV N] f65 N
def AcN:Ajs:=[Ajq 3 [],Ajq 10 [0,1,5]]
def Aex:Lk:=⟨[],[(10,⟨[(0,.i),(1,.i),(5,.c x64)],[]⟩,[(0,⟨[],[]⟩)])]⟩
def Aey:=JA 279 [Js,.cell false .fn] [JC] (fun a=>mP N a.1 a.2) [] AcN Aex f279 N (dd:=[(12,wO N)]) (hD:=⟨Adz N,trivial⟩)
def VC:Ajs:=[Ajq 85 [2,4,5,7]]
def WI:Lk:=⟨[(85,⟨[(2,.c AA),(4,.c AL),(5,.i),(7,.i)],[(AiP,.box [A8,A7,A8]),(AiS,.box [A8,A7,A8])]⟩)],[]⟩
def WJ:=JA 179 [Sq3] [Sq7,Jq] (QR N) [Ov N,VV N] VC WI f179 N
def o7:Ajs:=[Ajq 3 [1,4],Ajq 30 [1,4,5]]
def tK:Lk:=⟨[],[(30,⟨[(1,.c AQ),(4,.c x64),(5,.c x64)],[(AiX,.box BC)]⟩,[(0,⟨[(1,.c AQ),(4,.c x64)],[(AiX,.box BC)]⟩)])]⟩
def tV:=JA 181 [Sq8] [Jq,Jq] (bQ N) [ZA N,Z9 N] o7 tK f181 N (bb:=[9,13,14,18,19,23,24,28,29,38,42,46,47,51,52,56,57,61,62,66])
def AcO:=JB 202 [Js] [Jq] (xB N) [Uj N,⟨293,iD N,rO N⟩] f202 N
def lD:Ajs:=[Ajq 89 [2,4,5,6]]
def oK:Lk:=⟨[(89,⟨[(2,.c AA),(4,.c AL),(5,.c AP),(6,.c Bh)],[(AiP,.box [A8,AB,A8]),(AiS,.box [A8,AB,A8]),(AiT,.box [xs,xb,A8])]⟩)],[]⟩
def oL:=JA 155 [Sq3] [Aaj,Jq] (ZC N) [Ov N,VV N,Yf N] lD oK f155 N
open Go.Proofs Go.Proofs.Tryz
def TC:=JA 85 [Js] [JC] (Nk N) [⟨149,UD N,Wy N⟩,AaR N,Va N] [] Ajt f85 N (bb:=[13,17,18,21,22,25])
def Acy:=JB 284 [Js] [JC] (dL N) [Va N] f284 N
def uU:=JB 285 [Js] [JC] (VI N) [⟨329,SI N,XD N⟩,Va N,⟨209,PW N,QX N⟩] f285 N
def xR:Ajs:=[Ajq 3 [],Ajq 18 [0,1,12,13]]
def Aa3:Lk:=⟨[],[(18,⟨[(0,.i),(1,.i),(12,.i),(13,.c x64)],[]⟩,[(0,⟨[],[]⟩)])]⟩
def Aa4:=JA 148 [.cell false (.sl 90 Tq1),.cell false (.sl 90 Tq1)] [JC] (fun a=>oI N a.1 a.2) [Acl N] xR Aa3 f148 N
def xM:Ajs:=[Ajq 3 [2,4,5,6],Ajq 11 [2,4,5,6,7],Ajq 22 [2,4,5,6],Ajq 38 [2,4,5,6,7]]
def Aax:Lk:=⟨[],[(22,⟨[(2,.c AA),(4,.i),(5,.i),(6,.c x64)],[(AiP,.box Bo)]⟩,[(0,⟨[(2,.c AA),(4,.i),(5,.i),(6,.c x64)],[(AiP,.box Bo)]⟩)]),(38,⟨[(2,.c AA),(4,.c x64),(5,.i),(6,.i),(7,.c x64)],[(AiP,.box Bo)]⟩,[(2,⟨[(2,.c AA),(4,.c x64),(5,.i),(6,.i),(7,.c x64)],[(AiP,.box Bo)]⟩)])]⟩
def Aay:=JA 142 [Jq] [Sq8,Jq] (o6 N) [Z9 N,ZA N] xM Aax f142 N
def lF:Ajs:=[Ajq 49 [1,6]]
def oM:Lk:=⟨[(49,⟨[(1,.c AQ),(6,.c (xo 36864))],[(AiX,.box [xs,xb,xs]),(36864,.arr 9 false Aw)]⟩)],[]⟩
def oN:=JA 145 [Aaj] [Js,Jq] (ZE N) [VW N,Ox N,UJ N] lF oM f145 N
def WM:=JB 140 [Sq7] [Js,Jq] (QS N) [VW N,Ox N] f140 N
def ZU:=JB 75 [] [Js] (fun _=>UI N) [VW N,Ox N] f75 N
open Go.Proofs Go.Proofs.Tryz
def Qa (N:Nat):Alt:=.of [.cell false .str,.cell false (.int .i64)] [Sq4,.cell false (.int .i64)] [.cell false .ptr,.cell false (.int .i64)] (fun a=>V7 N a.1 a.2)
def Rt (N:Nat):Spec Tryz.prog 28 (Qa N).1/\Spec Tryz.prog 28 (Qa N).2.1:=Yv (C:=ctx Tryz.prog (ksp [TQ N]) [] [(57,NG N)]) (L:=⟨[],[]⟩) (fn:=f28) (N:=N) (OG (Rz _) ⟨OU N,trivial⟩) (by kernel_rfl) (by kernel_rfl) (fun a=>by kernel_rfl)
def WW:=JB 31 [Sq4] [Jq] (Uo N) [QB N,VN N] f31 N
def AbN:=JB 193 [Jq,Js] [JC] (fun a=>Zt N a.1 a.2) [⟨278,rG N,zM N⟩,Aey N] f193 N
def WL:Ajs:=[(3,⟨[6],[([6],90,Tq1,AiM)],[],[(AiL,AiM)],[]⟩),(42,⟨[6,26,27,28],[([6],90,Tq1,AiL)],[],[(43776,AiL)],[]⟩)]
def Xw:Lk:=⟨[],[(42,⟨[(6,.c (xo AiL)),(26,.i),(27,.i),(28,.c x64)],[(AiL,.arr 90 false Tq1)]⟩,[(0,⟨[(6,.c (xo AiM))],[(AiM,.arr 90 false Tq1)]⟩)])]⟩
def Xx:=JA 122 [Sq3] [.cell false (.sl 90 Tq1),Jq] (Ru N) [Ov N,rJ N,WJ N] WL Xw f122 N
def tH:Ajs:=[Ajq 33 [1,6],Ajq 69 [1,6,7]]
def xN:Lk:=⟨[(33,⟨[(1,.i),(6,.c x64)],[]⟩),(69,⟨[(1,.i),(6,.i),(7,.c x64)],[]⟩)],[]⟩
def Z7:=JA 123 [Jq,Js] [Jq,Jq] (fun a=>Xu N a.1 a.2) [ZB N,Aaz N,tV N] tH xN f123 N
def NU (N:Nat):Alt:=.of [Sq4] [Sq4,.cell false (.int .i64)] [.cell false .ptr,.cell false (.int .i64)] (fun a=>Qk N a)
def QQ (N:Nat):Spec Tryz.prog 125 (NU N).1/\Spec Tryz.prog 125 (NU N).2.1:=Yv (C:=ctx Tryz.prog (ksp [MN N]) [] [(57,NG N)]) (L:=⟨[],[]⟩) (fn:=f125) (N:=N) (OG (Rz _) ⟨OU N,trivial⟩) (by kernel_rfl) (by kernel_rfl) (fun a=>by kernel_rfl)
def Aa8:Ajs:=[Ajq 3 [],Ajq 30 [3,15,16,17]]
def Acn:Lk:=⟨[],[(30,⟨[(3,.c (xo 36352)),(15,.i),(16,.i),(17,.c x64)],[(36352,.mp Aw Ar)]⟩,[(0,⟨[],[]⟩)])]⟩
def jV:=JA 144 [.cell false (.sl 182 Tq2)] [Jq] (cO N) [Acp N,kF N,AcO N] Aa8 Acn f144 N
def Zz:=JB 186 [Js,Jq] [Jq,Jq] (fun a=>Tz N a.1 a.2) [TQ N,Yg N] f186 N
open Go.Proofs Go.Proofs.Tryz
def vV:Ajs:=[Ajq 3 [0,5],Ajq 11 [0,5],Ajq 18 [0,5],Ajq 38 [0,5,6]]
def zA:Lk:=⟨[],[(18,⟨[(0,.i),(5,.c x64)],[]⟩,[(0,⟨[(0,.i),(5,.c x64)],[]⟩)]),(38,⟨[(0,.i),(5,.i),(6,.c x64)],[]⟩,[(2,⟨[(0,.i),(5,.i)],[]⟩)])]⟩
def zB:=JA 344 [Js] [Js,Js,JC] (kQ N) [TE N,Uz N,ZH N] vV zA f344 N (bb:=[24,27,28,33,34,41,42,46,47,53,64,70,71,76,82,83])
def Ab6:=JB 315 [Js] [JC] (Zf N) [TE N] f315 N
def qW:=JA 316 [Js] [JC] (U9 N) [TE N,ZJ N] [] Ajt f316 N (bb:=[5,9,13,14,18,19,23,24,29,30])
def jE:=JB 346 [Js,Js] [JC] (fun a=>RS N a.1 a.2) [Aby N] f346 N
def X6:=JB 117 [Js] [Js] (Xg N) [jD N,KW N] f117 N
def TY:=JB 48 [Jq] [Js,Jq] (NP N) [yL N,AcB N,Wj N] f48 N
def Ti:=JB 53 [Jq,Jq] [Js] (fun a=>OJ N a.1 a.2) [eX N,KW N] f53 N
def yJ:=JB 321 [Js] [Jq] (kK N) [kN N,⟨347,ZI N,mD N⟩] f321 N
open Go.Proofs Go.Proofs.Tryz
def fC:Ajs:=[Ajq 3 [],Ajq 18 [11,12,13]]
def jI:Lk:=⟨[],[(18,⟨[(11,.i),(12,.i),(13,.c x64)],[]⟩,[(0,⟨[],[]⟩)])]⟩
def N8:=JA 99 [Sq6] [Jq] (Ny N) [WO N] fC jI f99 N
def fF:=JB 314 [Js] [JC] (Vj N) [zB N] f314 N
def Ab8:Ajs:=[Ajq 3 [],Ajq 10 [3,7,8,9]]
def AcD:Lk:=⟨[],[(10,⟨[(3,.c AO),(7,.i),(8,.i),(9,.c x64)],[(AiU,.box [xs,x64,xs])]⟩,[(0,⟨[],[]⟩)])]⟩
def AcE:=JA 319 [.cell false (.sl 90 Tq1),Sq7] [JC] (fun a=>Xh N a.1 a.2) [jE N] Ab8 AcD f319 N
def ZZ:Ajs:=[(3,⟨[3],[([3],9,Aw,AiM)],[],[(AiL,AiM)],[]⟩),(14,⟨[3,6,7,8],[([3],9,Aw,AiL)],[],[(39168,AiL)],[]⟩)]
def fJ:Lk:=⟨[],[(14,⟨[(3,.c (xo AiL)),(6,.i),(7,.i),(8,.c x64)],[(AiL,.arr 9 false Aw)]⟩,[(0,⟨[(3,.c (xo AiM))],[(AiM,.arr 9 false Aw)]⟩)])]⟩
def fK:=JA 105 [.cell false (.sl 90 Tq1)] [Ri] (Wn N) [X6 N,KW N] ZZ fJ f105 N
def fO:Ajs:=[Ajq 3 [],Ajq 10 [0,8,9,10]]
def jM:Lk:=⟨[],[(10,⟨[(0,.i),(8,.i),(9,.i),(10,.c x64)],[]⟩,[(0,⟨[],[]⟩)])]⟩
def jO:=JA 265 [.cell false (.sl 182 Tq2)] [Jq] (Xj N) [Wi N,AbA N,yJ N] fO jM f265 N
def UN:=JB 54 [] [Js] (fun _=>RY N) [X6 N,KW N] f54 N
open Go.Proofs Go.Proofs.Tryz
def pG:=JB 283 [Js] [JC] (Uu N) [TC N,⟨328,Sz N,WS N⟩,Va N] f283 N
def oH:Ajs:=[Ajq 3 [],Ajq 18 [2,3,15,16]]
def uD:Lk:=⟨[],[(18,⟨[(2,.c AA),(3,.c AO),(15,.i),(16,.c x64)],[(AiP,.box [Bd]),(AiU,.box [Bd])]⟩,[(0,⟨[],[]⟩)])]⟩
def uF:=JA 83 [Sq6,Sq6] [JC] (fun a=>VB N a.1 a.2) [Aa4 N] oH uD f83 N
def tJ:Ajs:=[Ajq 3 [6,7],(37,⟨[4,6,7],[],[],[(Ajd,AiL),(39680,AiL)],[]⟩),(42,⟨[6,7,38,39,40],[],[],[(44544,AiL)],[]⟩)]
def xO:Lk:=⟨[(37,⟨[(4,.c AL),(6,.c x64),(7,.c (xo AiL))],[(AiS,.box BC),(AiL,.arr 5 false Au)]⟩)],[(42,⟨[(6,.i),(7,.c (xo AiL)),(38,.c (xo 42496)),(39,.i),(40,.c x64)],[(42496,.arr 3 false Ar),(AiL,.arr 5 false Au)]⟩,[(0,⟨[(6,.i),(7,.c (xo AiL))],[(AiL,.arr 5 false Au)]⟩)])]⟩
def Z8:=JA 78 [Jq] [Js,Jq] (Qn N) [Aay N,Adw N,Ox N] tJ xO f78 N
def mF:=JA 313 [Js] [JC] (Tf N) [fF N,TE N] [] Ajt f313 N (bb:=[5,8,9,13,17,18,22,23,27,28])
def jJ:Ajs:=[Ajq 3 [],Ajq 18 [0,1,12,13]]
def mG:Lk:=⟨[],[(18,⟨[(0,.i),(1,.i),(12,.i),(13,.c x64)],[]⟩,[(0,⟨[],[]⟩)])]⟩
def mJ:=JA 263 [.cell false (.sl 90 Tq1),.cell false (.sl 90 Tq1)] [JC] (fun a=>Yl N a.1 a.2) [AcE N] jJ mG f263 N
def ZX:Ajs:=[Ajq 3 [5],Ajq 26 [5,14,15,16]]
def fE:Lk:=⟨[],[(26,⟨[(5,.c xs),(14,.i),(15,.i),(16,.c x64)],[]⟩,[(0,⟨[(5,.c xs)],[]⟩)])]⟩
def Ub:=JA 47 [Sq6] [Js,Jq] (QM N) [N8 N,fK N,yQ N,KW N] ZX fE f47 N
def WQ:=JB 172 [.cell false (.sl 182 Tq2)] [Jq] (QW N) [jO N] f172 N
def AbB:=JB 27 [Js,Js] [Js,Jq] (fun a=>qY N a.1 a.2) [zG N,Qv N,UN N] f27 N
open Go.Proofs Go.Proofs.Tryz
def Xv:Ajs:=[Ajq 3 [],Ajq 11 [0,13,14,15],Ajq 26 [0,13,14,15],Ajq 62 [0,4,13,14,15,41,42,43]]
def XV:Lk:=⟨[],[(26,⟨[(0,.i),(13,.i),(14,.i),(15,.c x64)],[]⟩,[(0,⟨[],[]⟩)]),(62,⟨[(0,.i),(4,.c AL),(13,.i),(14,.i),(15,.i),(41,.i),(42,.i),(43,.c x64)],[(AiS,.box [xs,x64,xs])]⟩,[(2,⟨[(0,.i),(13,.i),(14,.i),(15,.i)],[]⟩)])]⟩
def XW:=JA 130 [.cell false (.sl 90 Tq1)] [Jq] (SC N) [kF N,AbN N] Xv XV f130 N
def o5:=JB 61 [Sq4] [Jq,Jq] (Y7 N) [QB N,Z7 N] f61 N
def xU:Ajs:=[(3,⟨[7],[([7],182,Tq2,AiM)],[],[(AiL,AiM)],[]⟩),(46,⟨[7,33,34,35],[([7],182,Tq2,AiL)],[],[(45568,AiL)],[]⟩)]
def Aa9:Lk:=⟨[],[(46,⟨[(7,.c (xo AiL)),(33,.i),(34,.i),(35,.c x64)],[(AiL,.arr 182 false Tq2)]⟩,[(0,⟨[(7,.c (xo AiM))],[(AiM,.arr 182 false Tq2)]⟩)])]⟩
def cZ:=JA 94 [Js] [.cell false (.sl 182 Tq2),Jq] (YD N) [Uj N,Ov N,oL N,jV N] xU Aa9 f94 N
def xK:=JB 268 [Js] [Jq,Jq] (jU N) [Uj N,Z7 N] f268 N
def dK:=JA 194 [Jq,Js,JC] [JC] (fun a=>QF N a.1 a.2.1 a.2.2) [pG N,TC N,Acy N,uU N,AaM N,uT N] [] Ajt f194 N (bb:=[11,14,15,18,21,22,26,29,30,33,36,37,41,44,45,48,51,52])
def bD:=JA 185 [Js] [Js,Jq] (V5 N) [MN N,MM N] [] Ajt f185 N (aa:=[(28,Qa N)]) (hA:=⟨Rt N,trivial⟩)
def Ph:=JB 36 [Sq6,Sq6] [JC] (fun a=>Nb N a.1 a.2) [uF N] f36 N
def xW:Ajs:=[(3,⟨[5],[([5],9,Aw,AiM)],[],[(AiL,AiM)],[]⟩),(26,⟨[5,17,18,19],[([5],9,Aw,AiL)],[],[(41216,AiL)],[]⟩)]
def AaA:Lk:=⟨[],[(26,⟨[(5,.c (xo AiL)),(17,.i),(18,.i),(19,.c x64)],[(AiL,.arr 9 false Aw)]⟩,[(0,⟨[(5,.c (xo AiM))],[(AiM,.arr 9 false Aw)]⟩)])]⟩
def dA:=JA 80 [.cell false (.sl 182 Tq2)] [Js,Jq] (YE N) [jV N,oN N,Ox N] xW AaA f80 N
open Go.Proofs Go.Proofs.Tryz
def lJ:=JB 86 [Js,Js] [JC] (fun a=>XY N a.1 a.2) [TC N,⟨149,UD N,Wy N⟩,AaN N] f86 N
open Go.Proofs Go.Proofs.Tryz
def Yj:Ajs:=[Ajq 53 [2,5]]
def Zg:Lk:=⟨[(53,⟨[(2,.c AA),(5,.c xb)],[(AiP,.box [x64,xs,Bd])]⟩)],[]⟩
def RX:=JA 262 [Vz,JC] [Jq] (fun a=>PS N a.1 a.2) [mF N,fF N,Ab6 N,qW N,yY N,qV N,N8 N] Yj Zg f262 N (bb:=[11,15,16,19,23,24,28,32,33,36,40,41,45,49,50,53,57,58])
def ZY:Ajs:=[Ajq 3 [],Ajq 18 [2,3,15,16]]
def fG:Lk:=⟨[],[(18,⟨[(2,.c AA),(3,.c AO),(15,.i),(16,.c x64)],[(AiP,.box [Bd]),(AiU,.box [Bd])]⟩,[(0,⟨[],[]⟩)])]⟩
def fH:=JA 170 [Sq6,Sq6] [JC] (fun a=>QN N a.1 a.2) [mJ N] ZY fG f170 N
def Vk:Ajs:=[Ajq 3 [5],Ajq 26 [5,17,18,19],Ajq 45 [5,7,8,17,18,19]]
def Wq:Lk:=⟨[(45,⟨[(5,.i),(7,.c AZ),(8,.c xs),(17,.i),(18,.i),(19,.i)],[(AiV,.box [xs,xb,xs])]⟩)],[(26,⟨[(5,.c xs),(17,.i),(18,.i),(19,.c x64)],[]⟩,[(0,⟨[(5,.c xs)],[]⟩)])]⟩
def PT:=JA 111 [.cell false (.sl 182 Tq2)] [Js,Jq] (O7 N) [WQ N,TZ N,KW N,Qv N,X6 N] Vk Wq f111 N
open Go.Proofs Go.Proofs.Tryz
def uA:Ajs:=[Ajq 3 [],Ajq 18 [11,12,13]]
def xQ:Lk:=⟨[],[(18,⟨[(11,.i),(12,.i),(13,.c x64)],[]⟩,[(0,⟨[],[]⟩)])]⟩
def NZ:=JA 67 [Sq6] [Jq] (O5 N) [XW N] uA xQ f67 N
def Aav:Ajs:=[Ajq 3 [],Ajq 10 [2,4,9,10,11]]
def Ace:Lk:=⟨[],[(10,⟨[(2,.i),(4,.c AL),(9,.i),(10,.i),(11,.c x64)],[(AiS,.box [Bd])]⟩,[(0,⟨[],[]⟩)])]⟩
def Acf:=JA 135 [.cell false (.sl 121 Tq4),Sq6,Jq] [Jq] (fun a=>wM N a.1 a.2.1 a.2.2) [Ph N] Aav Ace f135 N
def aC:Ajs:=[Ajq 3 [],Ajq 18 [9,10,11]]
def fU:Lk:=⟨[],[(18,⟨[(9,.i),(10,.i),(11,.c x64)],[]⟩,[(0,⟨[],[]⟩)])]⟩
def Ud:=JA 166 [.cell false (.sl 112 Tq3)] [Jq] (QO N) [RX N] aC fU f166 N
def UM:=JB 109 [Sq6,Sq6] [JC] (fun a=>Nz N a.1 a.2) [fH N] f109 N
def Yk:=JB 264 [Vz,JC] [Js,Jq] (fun a=>SE N a.1 a.2) [RX N,Ub N,KW N] f264 N
def rC:=JB 52 [Jq,.cell false (.sl 182 Tq2)] [Js,Jq] (fun a=>ZL N a.1 a.2) [PT N,Qv N] f52 N
def AaI:=JB 39 [Vz,Vz] [JC] (fun a=>YG N a.1 a.2) [oW N,TC N,lJ N,xY N,Ph N] f39 N
open Go.Proofs Go.Proofs.Tryz
def oD:Ajs:=[(3,⟨[2,4,8],[],[],[(34817,AiM),(AiL,AiM)],[]⟩),(50,⟨[2,4,8,37,38,39],[],[],[(34817,AiL),(47104,AiL)],[]⟩)]
def uB:Lk:=⟨[],[(50,⟨[(2,.c AA),(4,.c AL),(8,.c Ba),(37,.i),(38,.i),(39,.c x64)],[(AiP,.box [(xo AiW)]),(AiW,.KO 91 false Aq),(AiS,.box [(xo AiZ)]),(AiZ,.KO 91 false Aq),(Aja,.box [(xo AiL)]),(AiL,.arr 91 false Aq)]⟩,[(0,⟨[(2,.c AA),(4,.c AL),(8,.c Ba)],[(AiP,.box [(xo AiW)]),(AiW,.KO 91 false Aq),(AiS,.box [(xo AiZ)]),(AiZ,.KO 91 false Aq),(Aja,.box [(xo AiM)]),(AiM,.arr 91 false Aq)]⟩)])]⟩
def XT:=JA 60 [Js] [Sq6,Jq] (V9 N) [Uj N,Ov N,Xx N,NZ N] oD uB f60 N
def Qz:=JB 131 [Vz,JC] [Jq] (fun a=>Qo N a.1 a.2) [oW N,NZ N,dK N] f131 N
def kY:=JB 71 [Q8,Jq] [Jq] (fun a=>XO N a.1 a.2) [nY N,Aaw N,NZ N,sS N,Ph N,Acf N] f71 N
def oG:Ajs:=[(3,⟨[5],[([5],9,Aw,AiO)],[],[(AiL,AiO)],[]⟩),(11,⟨[5,8,21,22,23],[([8],9,Aw,AiN),([5],9,Aw,1008208)],[],[(AiM,AiN),(AiR,1008208)],[]⟩),(26,⟨[5,21,22,23],[([5],9,Aw,AiL)],[],[(47872,AiL)],[]⟩),(42,⟨[5,8,21,22,23,27,28,29],[([8],9,Aw,AiM),([5],9,Aw,AiR)],[],[(44032,AiM),(AiL,AiR)],[]⟩)]
def uC:Lk:=⟨[],[(26,⟨[(5,.c (xo AiL)),(21,.i),(22,.i),(23,.c x64)],[(AiL,.arr 9 false Aw)]⟩,[(0,⟨[(5,.c (xo AiO))],[(AiO,.arr 9 false Aw)]⟩)]),(42,⟨[(5,.c (xo AiR)),(8,.c (xo AiM)),(21,.i),(22,.i),(23,.i),(27,.i),(28,.i),(29,.c x64)],[(AiM,.arr 9 false Aw),(AiR,.arr 9 false Aw)]⟩,[(2,⟨[(5,.c (xo 1008208)),(8,.c (xo AiN)),(21,.i),(22,.i),(23,.i)],[(AiN,.arr 9 false Aw),(1008208,.arr 9 false Aw)]⟩)])]⟩
def XU:=JA 77 [Sq6] [Js,Jq] (VA N) [NZ N,WM N,⟨141,XE N,wE N⟩,Ox N] oG uC f77 N
def fV:=JB 100 [Q8] [Jq] (Wu N) [jP N,Ud N] f100 N
def Zh:Ajs:=[Ajq 3 [],Ajq 18 [10,11,12]]
def aA:Lk:=⟨[],[(18,⟨[(10,.i),(11,.i),(12,.c x64)],[]⟩,[(0,⟨[],[]⟩)])]⟩
def SG:=JA 101 [.cell false (.sl 204 Tq5)] [Jq] (Qm N) [Ud N,N8 N] Zh aA f101 N (bb:=[20,24,25,29,35,36])
def aB:Ajs:=[Ajq 3 [],Ajq 66 [1,2,5,7]]
def fP:Lk:=⟨[],[(66,⟨[(1,.i),(2,.c AA),(5,.c AP),(7,.c x64)],[(AiP,.box Bi),(AiT,.box Bl)]⟩,[(0,⟨[],[]⟩)])]⟩
def fQ:=JA 102 [Q8,Jq] [Jq] (fun a=>Ws N a.1 a.2) [vX N,N8 N,UM N] aB fP f102 N (bb:=[24,28,29,33,34,38])
def ZW:Ajs:=[Ajq 3 [4],Ajq 30 [4,15,16,17]]
def fD:Lk:=⟨[],[(30,⟨[(4,.c xs),(15,.i),(16,.i),(17,.c x64)],[]⟩,[(0,⟨[(4,.c xs)],[]⟩)])]⟩
def Ua:=JA 171 [.cell false (.sl 112 Tq3)] [Js,Jq] (QL N) [Yk N] ZW fD f171 N
open Go.Proofs Go.Proofs.Tryz
def Aa1 (N n:Nat):Sig:=.of [Vz,Vz] [.cell false .bool] (AeO N n)
def AeP (N:Nat):WT Tryz.prog (Aa1 N):=tZ (Jp:=[Vz,Vz]) (Jz:=[.cell false .bool]) (l:=[(39,fun a=>YG N a.1 a.2)]) ⟨(AaI N).h,trivial⟩
open Go.Proofs Go.Proofs.Tryz
def oV:Ajs:=[Ajq 29 [1,2,4,6,11,13],(53,⟨[1,4,6],[],[(some Aje,2,Aq)],[],[]⟩)]
def uO:Lk:=⟨[(29,⟨[(1,.i),(2,.c AA),(4,.c AL),(6,.c Bc),(11,.i),(13,.c xb)],[(AiP,.box [x64,xs,xs]),(AiS,.box [A7,A8,(xo Ajh)]),(Ajh,.KO 91 false Aq),(Aje,.box [A7,A8,(xo 34307)]),(34307,.KO 91 false Aq)]⟩),(53,⟨[(1,.i),(4,.c AL),(6,.c Bc)],[(AiS,.box [A7,A8,(xo Ajh)]),(Ajh,.KO 91 false Aq),(Aje,.box [x64,xs,Bd])]⟩)],[]⟩
def uP:=JA 322 [Sq3,JC] [Vz,Jq] (fun a=>dH N a.1 a.2) [XT N,Qz N] oV uO f322 N
def XK:Ajs:=[Ajq 3 [],Ajq 10 [6,7,8]]
def Yy:Lk:=⟨[],[(10,⟨[(6,.i),(7,.i),(8,.c x64)],[]⟩,[(0,⟨[],[]⟩)])]⟩
def Yz:=JA 160 [.cell false (.sl 112 Tq3)] [Jq] (TM N) [Qz N] XK Yy f160 N
def iR:Ajs:=[Ajq 7 [],Ajq 21 [3,34],Ajq 46 [66,67,68]]
def kZ:Lk:=⟨[(21,⟨[(3,.c AO),(34,.c xb)],[(AiU,.box [Be,xb,xb,x64,xb])]⟩)],[(46,⟨[(66,.i),(67,.i),(68,.c x64)],[]⟩,[(1,⟨[],[]⟩)])]⟩
def l7:=JA 69 [Q8] [Jq] (XP N) [Qz N] iR kZ f69 N (bb:=[14,18,19,23,24,28,29,33,44,46,49,52,53,54])
def SQ:=JB 137 [Vz,JC] [Js,Jq] (fun a=>Rx N a.1 a.2) [Qz N,Ox N,XU N] f137 N
def fM:Ajs:=[Ajq 3 [],Ajq 94 [1,104,105]]
def jK:Lk:=⟨[],[(94,⟨[(1,.c AQ),(104,.i),(105,.c x64)],[(AiX,.box Bi)]⟩,[(0,⟨[],[]⟩)])]⟩
def jL:=JA 46 [Q8] [Jq] (Xi N) [N8 N,fV N,SG N,fQ N] fM jK f46 N (bb:=[22,26,27,31,32,36,37,43,47,51,52,56,57,61,62,66,72,73])
def UO:=JB 110 [Sq6] [Js] (RZ N) [Ua N] f110 N
def UQ:=JB 112 [.cell false (.sl 112 Tq3)] [Js] (Si N) [Ua N,KW N] f112 N
def KX:Ajs:=[Ajq 3 [],Ajq 18 [1,2,15,16,17]]
def Lc:Lk:=⟨[],[(18,⟨[(1,.i),(2,.i),(15,.i),(16,.i),(17,.c x64)],[]⟩,[(0,⟨[],[]⟩)])]⟩
def Ld:=JA 38 [.cell false (.sl 112 Tq3),.cell false (.sl 112 Tq3),.cell false .fn] [JC] (fun a=>JK N a.1 a.2.1 a.2.2) [] KX Lc f38 N (dd:=[(26,Aa1 N)]) (hD:=⟨AeP N,trivial⟩)
open Go.Proofs Go.Proofs.Tryz
def ZR:Ajs:=[(3,⟨[7],[([7],112,Tq3,AiM)],[],[(AiL,AiM)],[]⟩),(38,⟨[7,26,27,28],[([7],112,Tq3,AiL)],[],[(43776,AiL)],[]⟩)]
def dI:Lk:=⟨[],[(38,⟨[(7,.c (xo AiL)),(26,.i),(27,.i),(28,.c x64)],[(AiL,.arr 112 false Tq3)]⟩,[(0,⟨[(7,.c (xo AiM))],[(AiM,.arr 112 false Tq3)]⟩)])]⟩
def PO:=JA 270 [Js] [.cell false (.sl 112 Tq3),Jq] (NK N) [Ov N,ZF N,uP N] ZR dI f270 N
def XL:Ajs:=[Ajq 13 [1,4]]
def Y0:Lk:=⟨[(13,⟨[(1,.c AQ),(4,.c xb)],[(AiX,.box BG)]⟩)],[]⟩
def Y1:=JA 132 [Ah5] [Jq] (TN N) [Yz N,NZ N] XL Y0 f132 N
def nT:Ajs:=[(17,⟨[0,4,5,7],[([7],182,Tq2,AiL)],[],[(Ajf,AiL)],[]⟩),(25,⟨[0,4,5,7],[],[],[(41984,AiM),(AiL,AiM)],[]⟩),(37,⟨[0,4,7],[],[],[(47360,AiN),(AiM,AiN)],[]⟩),Ajq 49 [0,4,9]]
def sU:Lk:=⟨[(17,⟨[(0,.c AU),(4,.c AL),(5,.c AP),(7,.c (xo AiL))],[(0,.box [xb]),(AiS,.box Bl),(AiT,.box [Bd]),(AiL,.arr 182 false Tq2)]⟩),(25,⟨[(0,.c AU),(4,.c AL),(5,.c AP),(7,.c (xo AiM))],[(0,.box [xb]),(AiS,.box Bl),(AiT,.box [Bd]),(AiM,.arr 182 false Tq2)]⟩),(37,⟨[(0,.c AU),(4,.c AL),(7,.c (xo AiN))],[(0,.box [xb]),(AiS,.box Bl),(AiN,.arr 182 false Tq2)]⟩),(49,⟨[(0,.c AU),(4,.c AL),(9,.c xs)],[(0,.box [xb]),(AiS,.box Bl)]⟩)],[]⟩
def sV:=JA 72 [.box [(false,.bool)],AfR,Sq6] [Js] (fun a=>bI N a.1 a.2.1 a.2.2) [UK N,Lr N,Z8 N,MO N,Ph N,SQ N,NJ N,dA N,QC N] nT sU f72 N
def ZT:Ajs:=[Ajq 3 [5],Ajq 26 [5,16,17,18]]
def dJ:Lk:=⟨[],[(26,⟨[(5,.c xs),(16,.i),(17,.i),(18,.c x64)],[]⟩,[(0,⟨[(5,.c xs)],[]⟩)])]⟩
def TS:=JA 204 [.cell false (.sl 112 Tq3)] [Js,Jq] (QE N) [ZF N,SQ N] ZT dJ f204 N
def vW:Ajs:=[(17,⟨[2,3,5],[([5],182,Tq2,AiL)],[],[(37888,AiL)],[]⟩),(29,⟨[2,3,5],[],[],[(41472,AiM),(AiL,AiM)],[]⟩),(37,⟨[2,5],[],[],[(45056,AiN),(AiM,AiN)],[]⟩),Ajq 49 [2,8]]
def zD:Lk:=⟨[(17,⟨[(2,.c AA),(3,.c AO),(5,.c (xo AiL))],[(AiP,.box Bl),(AiU,.box [Bd]),(AiL,.arr 182 false Tq2)]⟩),(29,⟨[(2,.c AA),(3,.c AO),(5,.c (xo AiM))],[(AiP,.box Bl),(AiU,.box [Bd]),(AiM,.arr 182 false Tq2)]⟩),(37,⟨[(2,.c AA),(5,.c (xo AiN))],[(AiP,.box Bl),(AiN,.arr 182 false Tq2)]⟩),(49,⟨[(2,.c AA),(8,.c xs)],[(AiP,.box Bl)]⟩)],[]⟩
def zF:=JA 49 [AfR,Sq6] [Js] (fun a=>kR N a.1 a.2) [Ti N,TY N,UM N,UO N,KW N,PT N] vW zD f49 N
def Yo:Ajs:=[Ajq 3 [5],Ajq 34 [5,17,18,19],Ajq 53 [5,7,8,17,18,19]]
def Zi:Lk:=⟨[(53,⟨[(5,.i),(7,.c AZ),(8,.c xs),(17,.i),(18,.i),(19,.i)],[(AiV,.box BG)]⟩)],[(34,⟨[(5,.c xs),(17,.i),(18,.i),(19,.c x64)],[]⟩,[(0,⟨[(5,.c xs)],[]⟩)])]⟩
def Zj:=JA 115 [.cell false (.sl 204 Tq5)] [Js,Jq] (Uc N) [SG N,UO N,KW N,UQ N,ZK N,Qv N] Yo Zi f115 N
def aG:=JA 20 [Q8,Q8] [JC] (fun a=>MP N a.1 a.2) [Ph N,Zk N,Ld N] [] Ajt f20 N (bb:=[34,40,46,47,53,54,62,63,69,70])
end
end Go.Proofs.YtpaimpmokhihmaaGreatDoor.Vm
