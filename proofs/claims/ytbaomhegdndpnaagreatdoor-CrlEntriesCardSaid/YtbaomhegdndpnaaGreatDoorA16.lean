import Derived.Test.YtbaomhegdndpnaaGreatDoorA15
set_option linter.all false
namespace Go.Proofs.YtbaomhegdndpnaaGreatDoor.Vm
noncomputable section
variable (N:Nat)
open Go.Proofs
def QH:Sig:=.of [Sq0,Sq0] [DK] (fun a=>JD N a.1 a.2)
theorem QT:Dc 91 (QH N):=Di (Dh [(153,eG N)] []) ⟨[],[]⟩ Tryz.f91 N (CZ ⟨yF N,trivial⟩)
def Qh (N:Nat):Alt:=.of [.cell false .str,.cell false (.int .i64)] [Sq9,.cell false (.int .i64)] [.cell false .ptr,.cell false (.int .i64)] (fun a=>Oi N a.1 a.2)
theorem oG:Spec Tryz.prog 98 (Qh N).1/\Spec Tryz.prog 98 (Qh N).2.1:=Pv (C:=ctx Tryz.prog [(159,JM N)] [] [] [] [23]) (L:=⟨[],[]⟩) (fn:=Tryz.f98) (N:=N) (CZ ⟨Jg N,trivial⟩) (by kernel_rfl) (by kernel_rfl) (fun a=>by kernel_rfl)
def aT:List (Nat×Nrm):=[(3,⟨[],[],[],[],[]⟩),(11,⟨[0,13,14,15],[],[],[],[]⟩),(26,⟨[0,13,14,15],[],[],[],[]⟩),(62,⟨[0,4,13,14,15,41,42,43],[],[],[],[]⟩)]
def eH:Lk:=⟨[],[(26,⟨[(0,.i),(13,.i),(14,.i),(15,.c x64)],[]⟩,[(0,⟨[],[]⟩)]),(62,⟨[(0,.i),(4,.c AP),(13,.i),(14,.i),(15,.i),(41,.i),(42,.i),(43,.c x64)],[(33792,.box [xs,x64,xs])]⟩,[(2,⟨[(0,.i),(13,.i),(14,.i),(15,.i)],[]⟩)])]⟩
def Rq:Sig:=.of [.cell false (.sl 73 Tq0)] [Df] (fun a=>Ku N a)
theorem Yl:Dc 86 (Rq N):=Di (Dh [(148,bK N),(149,wP N)] aT) eH Tryz.f86 N (CZ ⟨fQ N,Adz N,trivial⟩)
def V6:Sig:=.of [Df,Dn,DK] [DK] (fun a=>QU N a.1 a.2.1 a.2.2)
theorem eY:Dc 151 (V6 N):=Di (Dh [(211,ZG N),(212,bC N),(213,zT N),(214,fD N),(215,sH N),(216,fB N)] [] [] [] [] [11,14,15,18,21,22,26,29,30,33,36,37,41,44,45,48,51,52]) ⟨[],[]⟩ Tryz.f151 N (CZ ⟨sG N,fC N,Aep N,yJ N,Ac4 N,yI N,trivial⟩)
def AfY:List (Nat×Nrm):=[(3,⟨[5],[([5],9,Au,1004096)],[],[(1000000,1004096)],[]⟩),(26,⟨[5,17,18,19],[([5],9,Au,1000000)],[],[(41216,1000000)],[]⟩)]
def AhF:Lk:=⟨[],[(26,⟨[(5,.c (xo 1000000)),(17,.i),(18,.i),(19,.c x64)],[(1000000,.arr 9 false Au)]⟩,[(0,⟨[(5,.c (xo 1004096))],[(1004096,.arr 9 false Au)]⟩)])]⟩
def Yr:Sig:=.of [.cell false (.sl 183 Tq4)] [Dn,Df] (fun a=>KZ N a)
theorem ZA:Dc 82 (Yr N):=Di (Dh [(141,aV N),(142,ZC N),(136,JA N)] AfY) AhF Tryz.f82 N (CZ ⟨eQ N,rM N,Iw N,trivial⟩)
def Tn:Sig:=.of [Dn,Df,Df,Dn,Dn] [Dn] (fun a=>QN N a.1 a.2.1 a.2.2.1 a.2.2.2.1 a.2.2.2.2)
theorem VF:Dc 118 (Tn N):=Di (Dh [(178,Aae N),(161,Vh N),(159,JM N)] []) ⟨[],[]⟩ Tryz.f118 N (CZ ⟨Ae4 N,UG N,Jg N,trivial⟩)
def AjG:List (Nat×Nrm):=[(3,⟨[5],[],[],[],[]⟩),(10,⟨[0,1,2,4,5,13],[],[],[],[]⟩)]
def Amb:Lk:=⟨[],[(10,⟨[(0,.i),(1,.i),(2,.i),(4,.i),(5,.c xs),(13,.c x64)],[]⟩,[(0,⟨[(5,.c xs)],[]⟩)])]⟩
def X7:Sig:=.of [Dn,Df,Df,Df,Df,Dn] [Dn] (fun a=>UJ N a.1 a.2.1 a.2.2.1 a.2.2.2.1 a.2.2.2.2.1 a.2.2.2.2.2)
theorem WB:Dc 176 (X7 N):=Di (Dh [(247,kQ N),(248,Abf N),(159,JM N)] AjG) Amb Tryz.f176 N (CZ ⟨bM N,Aak N,Jg N,trivial⟩)
def Sv:Sig:=.of [Qb] [Df] (fun a=>Jq N a)
theorem V3:Dc 59 (Sv N):=Di (Dh [(105,MP N),(112,OL N)] []) ⟨[],[]⟩ Tryz.f59 N (CZ ⟨NS N,V8 N,trivial⟩)
def Zm:List (Nat×Nrm):=[(3,⟨[6],[([6],73,Tq0,1004096)],[],[(1000000,1004096)],[]⟩),(42,⟨[6,26,27,28],[([6],73,Tq0,1000000)],[],[(43776,1000000)],[]⟩)]
def aU:Lk:=⟨[],[(42,⟨[(6,.c (xo 1000000)),(26,.i),(27,.i),(28,.c x64)],[(1000000,.arr 73 false Tq0)]⟩,[(0,⟨[(6,.c (xo 1004096))],[(1004096,.arr 73 false Tq0)]⟩)])]⟩
def Qx:Sig:=.of [KD] [.cell false (.sl 73 Tq0),Df] (fun a=>Fb N a)
theorem X0:Dc 165 (Qx N):=Di (Dh [(163,J9 N),(234,aG N),(235,PW N)] Zm) aU Tryz.f165 N (CZ ⟨Iu N,wR N,Wp N,trivial⟩)
def AdM:List (Nat×Nrm):=[(33,⟨[1,6],[],[],[],[]⟩),(69,⟨[1,6,7],[],[],[],[]⟩)]
def AfR:Lk:=⟨[(33,⟨[(1,.i),(6,.c x64)],[]⟩),(69,⟨[(1,.i),(6,.i),(7,.c x64)],[]⟩)],[]⟩
def We:Sig:=.of [Df,Dn] [Df,Df] (fun a=>NJ N a.1 a.2)
theorem Ye:Dc 166 (We N):=Di (Dh [(236,Wn N),(238,qY N),(237,dZ N)] AdM) AfR Tryz.f166 N (CZ ⟨Yi N,Acb N,yD N,trivial⟩)
def Kt (N:Nat):Alt:=.of [Qb] [Qb,.cell false (.int .i64)] [.cell false .ptr,.cell false (.int .i64)] (fun a=>Ij N a)
theorem Ro:Spec Tryz.prog 168 (Kt N).1/\Spec Tryz.prog 168 (Kt N).2.1:=Pv (C:=ctx Tryz.prog [(57,Gw N)] [] [(104,JH N)]) (L:=⟨[],[]⟩) (fn:=Tryz.f168) (N:=N) (CZ ⟨Gq N,trivial⟩ ⟨MO N,trivial⟩) (by kernel_rfl) (by kernel_rfl) (fun a=>by kernel_rfl)
def VZ:Sig:=.of [Dn,Df] [Df,Df] (fun a=>GN N a.1 a.2)
theorem Yc:Dc 242 (VZ N):=Di (Dh [(103,Ip N),(164,UM N)] []) ⟨[],[]⟩ Tryz.f242 N (CZ ⟨LW N,Xg N,trivial⟩)
def YO:Sig:=.of [Dn] [DK] (fun a=>UO N a)
theorem oN:Dc 222 (YO N):=Di (Dh [(223,YP N),(278,Q9 N)] [] [] [] [] [5,8,9,13,17,18,22,23,27,28]) ⟨[],[]⟩ Tryz.f222 N (CZ ⟨ZZ N,PQ N,trivial⟩)
def yT:List (Nat×Nrm):=[(3,⟨[],[],[],[],[]⟩),(18,⟨[0,1,12,13],[],[],[],[]⟩)]
def Abu:Lk:=⟨[],[(18,⟨[(0,.i),(1,.i),(12,.i),(13,.c x64)],[]⟩,[(0,⟨[],[]⟩)])]⟩
def YS:Sig:=.of [.cell false (.sl 73 Tq0),.cell false (.sl 73 Tq0)] [DK] (fun a=>gX N a.1 a.2)
theorem oQ:Dc 158 (YS N):=Di (Dh [(228,Aar N)] yT) Abu Tryz.f158 N (CZ ⟨AeV N,trivial⟩)
def Ae2:List (Nat×Nrm):=[(3,⟨[3],[([3],134,Tq3,1008192)],[],[(1000000,1008192)],[]⟩),(14,⟨[0,3,4],[([3],134,Tq3,1000000)],[],[(41216,1000000)],[]⟩),(33,⟨[0,3,4,5],[([3],134,Tq3,1004096)],[(some 34048,3,Aq)],[(1000000,1004096)],[]⟩)]
def Agh:Lk:=⟨[(33,⟨[(0,.c AL),(3,.c (xo 1004096)),(4,.i),(5,.c AQ)],[(0,.box BA),(34048,.box [(xo 36608),x64,xb,Bc]),(36608,.arr 85 false Tq2),(1004096,.arr 134 false Tq3)]⟩)],[(14,⟨[(0,.c AL),(3,.c (xo 1000000)),(4,.c x64)],[(0,.box BA),(1000000,.arr 134 false Tq3)]⟩,[(0,⟨[(3,.c (xo 1008192))],[(0,.box BA),(1008192,.arr 134 false Tq3)]⟩)])]⟩
def mP:Sig:=.of [pJ] [.cell false (.sl 134 Tq3)] (fun a=>Vf N a)
theorem AaU:Dc 48 (mP N):=Di (Dh [(16,Hm N),(47,UE N),(8,JR N)] Ae2) Agh Tryz.f48 N (CZ ⟨G9 N,Xc N,Kw N,trivial⟩)
def Y9:Sig:=.of [Dn,Df,Sq8] [Dn] (fun a=>TE N a.1 a.2.1 a.2.2)
theorem ZN:Dc 177 (Y9 N):=Di (Dh [(247,kQ N),(232,kR N),(159,JM N)] []) ⟨[],[]⟩ Tryz.f177 N (CZ ⟨bM N,mY N,Jg N,trivial⟩)
def YA:Sig:=.of [Dn,Df,Df] [Dn] (fun a=>TF N a.1 a.2.1 a.2.2)
theorem ZO:Dc 231 (YA N):=Di (Dh [(247,kQ N),(248,Abf N),(159,JM N)] []) ⟨[],[]⟩ Tryz.f231 N (CZ ⟨bM N,Aak N,Jg N,trivial⟩)
def Tm:Sig:=.of [KD,Df,Dn] [Dn] (fun a=>KJ N a.1 a.2.1 a.2.2)
theorem VE:Dc 117 (Tm N):=Di (Dh [(161,Vh N),(159,JM N)] []) ⟨[],[]⟩ Tryz.f117 N (CZ ⟨UG N,Jg N,trivial⟩)
def iZ:Sig:=.of [Qb] [Df,Df] (fun a=>O9 N a)
theorem mG:Dc 108 (iZ N):=Di (Dh [(105,MP N),(166,We N)] []) ⟨[],[]⟩ Tryz.f108 N (CZ ⟨NS N,Ye N,trivial⟩)
def AfX:List (Nat×Nrm):=[(3,⟨[7],[([7],183,Tq4,1004096)],[],[(1000000,1004096)],[]⟩),(46,⟨[7,33,34,35],[([7],183,Tq4,1000000)],[],[(45568,1000000)],[]⟩)]
def AhE:Lk:=⟨[],[(46,⟨[(7,.c (xo 1000000)),(33,.i),(34,.i),(35,.c x64)],[(1000000,.arr 183 false Tq4)]⟩,[(0,⟨[(7,.c (xo 1004096))],[(1004096,.arr 183 false Tq4)]⟩)])]⟩
def Yq:Sig:=.of [Dn] [.cell false (.sl 183 Tq4),Df] (fun a=>SK N a)
theorem Z9:Dc 170 (Yq N):=Di (Dh [(162,RV N),(163,J9 N),(240,ZB N),(141,aV N)] AfX) AhE Tryz.f170 N (CZ ⟨Pm N,Iu N,rJ N,eQ N,trivial⟩)
def mD:Sig:=.of [Dn] [Df,Df] (fun a=>Qw N a)
theorem AaB:Dc 286 (mD N):=Di (Dh [(162,RV N),(166,We N)] []) ⟨[],[]⟩ Tryz.f286 N (CZ ⟨Pm N,Ye N,trivial⟩)
def V4:Sig:=.of [Dn] [Dn,Df] (fun a=>MM N a)
theorem dQ:Dc 241 (V4 N):=Di (Dh [(57,Gw N),(61,Gv N)] [] [(56,P7 N)]) ⟨[],[]⟩ Tryz.f241 N (CZ ⟨Gq N,Gp N,trivial⟩ ⟨SE N,trivial⟩)
def gU:List (Nat×Nrm):=[(53,⟨[2,5],[],[],[],[]⟩)]
def lF:Lk:=⟨[(53,⟨[(2,.c AB),(5,.c xb)],[(33280,.box [x64,xs,Bc])]⟩)],[]⟩
def Np:Sig:=.of [Ad7,DK] [Df] (fun a=>Gm N a.1 a.2)
theorem PY:Dc 156 (Np N):=Di (Dh [(222,YO N),(223,YP N),(224,uX N),(225,aA N),(226,nM N),(227,ZY N),(40,Ik N)] gU [] [] [] [11,15,16,19,23,24,28,32,33,36,40,41,45,49,50,53,57,58]) lF Tryz.f156 N (CZ ⟨oN N,ZZ N,Adq N,vF N,Abt N,uV N,Ig N,trivial⟩)
def Ahz:List (Nat×Nrm):=[(3,⟨[],[],[],[],[]⟩),(10,⟨[2,4,9,10,11],[],[],[],[]⟩)]
def Ajo:Lk:=⟨[],[(10,⟨[(2,.i),(4,.c AP),(9,.i),(10,.i),(11,.c x64)],[(33792,.box [Bc])]⟩,[(0,⟨[],[]⟩)])]⟩
def aS:Sig:=.of [.cell false (.sl 35 Tq1),Sq0,Df] [Df] (fun a=>Rl N a.1 a.2.1 a.2.2)
theorem dV:Dc 49 (aS N):=Di (Dh [(91,QH N)] Ahz) Ajo Tryz.f49 N (CZ ⟨QT N,trivial⟩)
def dA (N:Nat):Alt:=.of [.cell false .str,.cell false (.int .i64),.cell false (.int .i64)] [Aa2,.cell false (.int .i64)] [.cell false .ptr,.cell false (.int .i64)] (fun a=>wB N a.1 a.2.1 a.2.2)
theorem AgC:Spec Tryz.prog 52 (dA N).1/\Spec Tryz.prog 52 (dA N).2.1:=Pv (C:=ctx Tryz.prog [(99,J7 N)] [] [(98,Qh N)]) (L:=⟨[],[]⟩) (fn:=Tryz.f52) (N:=N) (CZ ⟨KE N,trivial⟩ ⟨oG N,trivial⟩) (by kernel_rfl) (by kernel_rfl) (fun a=>by kernel_rfl)
def AdT:List (Nat×Nrm):=[(3,⟨[],[],[],[],[]⟩),(18,⟨[11,12,13],[],[],[],[]⟩)]
def AfV:Lk:=⟨[],[(18,⟨[(11,.i),(12,.i),(13,.c x64)],[]⟩,[(0,⟨[],[]⟩)])]⟩
def Jr:Sig:=.of [Sq0] [Df] (fun a=>GU N a)
theorem IG:Dc 35 (Jr N):=Di (Dh [(86,Rq N)] AdT) AfV Tryz.f35 N (CZ ⟨Yl N,trivial⟩)
def AbO:Sig:=.of [Dn,Dn] [Dn,Df] (fun a=>iT N a.1 a.2)
theorem AfP:Dc 33 (AbO N):=Di (Dh [(85,zG N)] []) ⟨[],[]⟩ Tryz.f33 N (CZ ⟨AdD N,trivial⟩)
def Agp:List (Nat×Nrm):=[(3,⟨[0,2,9],[],[],[],[]⟩),(26,⟨[0,1,2,9,10],[([9],9,Au,1000000)],[],[(40960,1000000)],[]⟩)]
def Aiw:Lk:=⟨[],[(26,⟨[(0,.i),(1,.i),(2,.i),(9,.c (xo 1000000)),(10,.c x64)],[(1000000,.arr 9 false Au)]⟩,[(0,⟨[(0,.i),(2,.i),(9,.c (xo 1000000))],[(1000000,.arr 9 false Au)]⟩)])]⟩
def uF:Sig:=.of [Dn,Dn,Df] [Dn,Df] (fun a=>X6 N a.1 a.2.1 a.2.2)
theorem AcW:Dc 179 (uF N):=Di (Dh [(230,TD N),(231,YA N),(176,X7 N),(177,Y9 N)] Agp) Aiw Tryz.f179 N (CZ ⟨VJ N,ZO N,WB N,ZN N,trivial⟩)
def AjE:List (Nat×Nrm):=[(3,⟨[13],[],[],[],[]⟩),(38,⟨[0,1,2,11,13,14],[([13],9,Au,1000000)],[],[(45056,1000000)],[]⟩)]
def AlZ:Lk:=⟨[],[(38,⟨[(0,.i),(1,.i),(2,.i),(11,.i),(13,.c (xo 1000000)),(14,.c x64)],[(1000000,.arr 9 false Au)]⟩,[(0,⟨[(13,.c (xo 1000000))],[(1000000,.arr 9 false Au)]⟩)])]⟩
def AcX:Sig:=.of [Dn,Dn,Df,Dn] [Dn,Df] (fun a=>kP N a.1 a.2.1 a.2.2.1 a.2.2.2)
theorem Agr:Dc 160 (AcX N):=Di (Dh [(230,TD N),(175,Y7 N),(231,YA N),(176,X7 N),(232,kR N)] AjE) AlZ Tryz.f160 N (CZ ⟨VJ N,ZM N,ZO N,WB N,mY N,trivial⟩)
def AeF:List (Nat×Nrm):=[(3,⟨[0,1,13],[],[],[],[]⟩),(46,⟨[0,1,3,11,13,14],[([13],9,Au,1000000)],[],[(46336,1000000)],[]⟩)]
def Agq:Lk:=⟨[],[(46,⟨[(0,.i),(1,.i),(3,.i),(11,.i),(13,.c (xo 1000000)),(14,.c x64)],[(1000000,.arr 9 false Au)]⟩,[(0,⟨[(0,.i),(1,.i),(13,.c (xo 1000000))],[(1000000,.arr 9 false Au)]⟩)])]⟩
def mX:Sig:=.of [Dn,Df,Dn,Dn] [Dn,Df] (fun a=>Vj N a.1 a.2.1 a.2.2.1 a.2.2.2)
theorem Abe:Dc 116 (mX N):=Di (Dh [(174,TC N),(175,Y7 N),(176,X7 N),(177,Y9 N)] AeF) Agq Tryz.f116 N (CZ ⟨VI N,ZM N,WB N,ZN N,trivial⟩)
def oW:List (Nat×Nrm):=[(3,⟨[],[],[],[],[]⟩),(18,⟨[9,10,11],[],[],[],[]⟩)]
def vS:Lk:=⟨[],[(18,⟨[(9,.i),(10,.i),(11,.c x64)],[]⟩,[(0,⟨[],[]⟩)])]⟩
def OZ:Sig:=.of [.cell false (.sl 85 Tq2)] [Df] (fun a=>JZ N a)
theorem RQ:Dc 94 (OZ N):=Di (Dh [(156,Np N)] oW) vS Tryz.f94 N (CZ ⟨PY N,trivial⟩)
def iR:Sig:=.of [Sq2,Sq0,Df] [Sq3,DK] (fun a=>O6 N a.1 a.2.1 a.2.2)
theorem lZ:Dc 17 (iR N):=Di (Dh [(49,aS N),(50,Uy N)] []) ⟨[],[]⟩ Tryz.f17 N (CZ ⟨dV N,WU N,trivial⟩)
def YY (N:Nat):Alt:=.of [.cell false .str,.cell false (.int .i64)] [Aa2,.cell false (.int .i64)] [.cell false .ptr,.cell false (.int .i64)] (fun a=>Ue N a.1 a.2)
theorem Afa:Spec Tryz.prog 22 (YY N).1/\Spec Tryz.prog 22 (YY N).2.1:=Pv (C:=ctx Tryz.prog [] [] [(52,dA N)]) (L:=⟨[],[]⟩) (fn:=Tryz.f22) (N:=N) (CZ trivial ⟨AgC N,trivial⟩) (by kernel_rfl) (by kernel_rfl) (fun a=>by kernel_rfl)
def N8:Sig:=.of [Ad7,DK] [Df] (fun a=>GX N a.1 a.2)
theorem MS:Dc 87 (N8 N):=Di (Dh [(150,Acx N),(35,Jr N),(151,V6 N)] []) ⟨[],[]⟩ Tryz.f87 N (CZ ⟨AfZ N,IG N,eY N,trivial⟩)
def Ya:Sig:=.of [Sq2,Df] [Df] (fun a=>P6 N a.1 a.2)
theorem nY:Dc 39 (Ya N):=Di (Dh [(36,iY N),(89,qO N),(35,Jr N),(90,dS N),(91,QH N),(49,aS N)] []) ⟨[],[]⟩ Tryz.f39 N (CZ ⟨mF N,AbV N,IG N,y9 N,QT N,dV N,trivial⟩)
def Ach:List (Nat×Nrm):=[(3,⟨[5],[([5],9,Au,1012288)],[],[(1000000,1012288)],[]⟩),(11,⟨[5,8,21,22,23],[([8],9,Au,1008192),([5],9,Au,1008208)],[],[(1004096,1008192),(1004112,1008208)],[]⟩),(26,⟨[5,21,22,23],[([5],9,Au,1000000)],[],[(47872,1000000)],[]⟩),(42,⟨[5,8,21,22,23,27,28,29],[([8],9,Au,1004096),([5],9,Au,1004112)],[],[(44032,1004096),(1000000,1004112)],[]⟩)]
def AdV:Lk:=⟨[],[(26,⟨[(5,.c (xo 1000000)),(21,.i),(22,.i),(23,.c x64)],[(1000000,.arr 9 false Au)]⟩,[(0,⟨[(5,.c (xo 1012288))],[(1012288,.arr 9 false Au)]⟩)]),(42,⟨[(5,.c (xo 1004112)),(8,.c (xo 1004096)),(21,.i),(22,.i),(23,.i),(27,.i),(28,.i),(29,.c x64)],[(1004096,.arr 9 false Au),(1004112,.arr 9 false Au)]⟩,[(2,⟨[(5,.c (xo 1008208)),(8,.c (xo 1008192)),(21,.i),(22,.i),(23,.i)],[(1008192,.arr 9 false Au),(1008208,.arr 9 false Au)]⟩)])]⟩
def UA:Sig:=.of [Sq0] [Dn,Df] (fun a=>LY N a)
theorem WZ:Dc 79 (UA N):=Di (Dh [(35,Jr N),(137,PX N),(138,dF N),(136,JA N)] Ach) AdV Tryz.f79 N (CZ ⟨IG N,Wq N,Afg N,Iw N,trivial⟩)
def oI:List (Nat×Nrm):=[(3,⟨[0,2],[([2],9,Au,1004096)],[],[(1000000,1004096)],[]⟩),(11,⟨[],[],[],[(44032,1020480),(1008192,1020480)],[]⟩),(14,⟨[0,2,3],[([2],9,Au,1000000)],[],[(43264,1000000)],[]⟩),(19,⟨[0,6,7],[([7],9,Au,1016384)],[],[(44032,1016400),(1012288,1016384),(1012304,1016400)],[]⟩),(38,⟨[0,2,6],[],[],[(44032,1008192),(56576,1008192),(1016384,1004096)],[]⟩),(54,⟨[0,2,6,7,8],[([7],9,Au,1012288)],[],[(44032,1012304),(54016,1012288),(1008192,1012304)],[]⟩)]
def tV:Lk:=⟨[],[(14,⟨[(0,.c AL),(2,.c (xo 1000000)),(3,.c x64)],[(0,.box Bz),(1000000,.arr 9 false Au)]⟩,[(0,⟨[(0,.c AL),(2,.c (xo 1004096))],[(0,.box Bz),(1004096,.arr 9 false Au)]⟩)]),(38,⟨[(0,.c AL),(2,.c (xo 1004096)),(6,.c x64)],[(0,.box [(xo 1008192),xs,xs,x64]),(1004096,.arr 9 true Au),(1008192,.arr 67 false (.sl 9 Au .nil))]⟩,[(2,⟨[],[(0,.box [(xo 1020480),xs,xs,x64]),(1020480,.arr 67 false (.sl 9 Au .nil))]⟩)]),(54,⟨[(0,.c AL),(2,.c (xo 1004096)),(6,.i),(7,.c (xo 1012288)),(8,.c x64)],[(0,.box [(xo 1012304),xs,xs,x64]),(1004096,.arr 9 true Au),(1012288,.arr 9 false Au),(1012304,.arr 67 false (.sl 9 Au .nil))]⟩,[(4,⟨[(0,.c AL),(6,.i),(7,.c (xo 1016384))],[(0,.box [(xo 1016400),xs,xs,x64]),(1016384,.arr 9 false Au),(1016400,.arr 67 false (.sl 9 Au .nil))]⟩)])]⟩
def VC:Sig:=.of [Sq9] [] (fun a=>Ho N a)
theorem fM:Dc 120 (VC N):=Di (Dh [(179,uF N),(118,Tn N)] oI) tV Tryz.f120 N (CZ ⟨AcW N,VF N,trivial⟩)
def Acg:List (Nat×Nrm):=[(3,⟨[2,4,8],[],[],[(34817,1004096),(1000000,1004096)],[]⟩),(50,⟨[2,4,8,37,38,39],[],[],[(34817,1000000),(47104,1000000)],[]⟩)]
def AdU:Lk:=⟨[],[(50,⟨[(2,.c AB),(4,.c AP),(8,.c AX),(37,.i),(38,.i),(39,.c x64)],[(33280,.box BC),(33281,.DU 74 false Aq),(33792,.box [(xo 33793)]),(33793,.DU 74 false Aq),(34816,.box [(xo 1000000)]),(1000000,.arr 74 false Aq)]⟩,[(0,⟨[(2,.c AB),(4,.c AP),(8,.c AX)],[(33280,.box BC),(33281,.DU 74 false Aq),(33792,.box [(xo 33793)]),(33793,.DU 74 false Aq),(34816,.box [(xo 1004096)]),(1004096,.arr 74 false Aq)]⟩)])]⟩
def U1:Sig:=.of [Dn] [Sq0,Df] (fun a=>LX N a)
theorem WY:Dc 107 (U1 N):=Di (Dh [(162,RV N),(163,J9 N),(165,Qx N),(35,Jr N)] Acg) AdU Tryz.f107 N (CZ ⟨Pm N,Iu N,X0 N,IG N,trivial⟩)
def AaZ:List (Nat×Nrm):=[(3,⟨[3,10],[],[],[],[]⟩),(58,⟨[3,10,12,13,14],[],[],[],[]⟩),(61,⟨[3,10,12,13,14],[],[],[],[]⟩)]
def AcP:Lk:=⟨[(61,⟨[(3,.c AO),(10,.c xs),(12,.i),(13,.i),(14,.i)],[(33536,.box [x64,xs,xs])]⟩)],[(58,⟨[(3,.c AO),(10,.c xs),(12,.i),(13,.c x64),(14,.c x64)],[(33536,.box [x64,xs,xs])]⟩,[(0,⟨[(3,.c AO),(10,.c xs)],[(33536,.box [x64,xs,xs])]⟩)])]⟩
def ZK:Sig:=.of [KD,Dn,Dn] [Df] (fun a=>QM N a.1 a.2.1 a.2.2)
theorem tX:Dc 65 (ZK N):=Di (Dh [(114,fJ N),(115,mQ N),(117,Tm N),(116,mX N),(118,Tn N)] AaZ) AcP Tryz.f65 N (CZ ⟨yL N,AaY N,VE N,Abe N,VF N,trivial⟩)
def oM:List (Nat×Nrm):=[(3,⟨[5],[],[],[],[]⟩),(26,⟨[5,14,15,16],[],[],[],[]⟩)]
def vC:Lk:=⟨[],[(26,⟨[(5,.c xs),(14,.i),(15,.i),(16,.c x64)],[]⟩,[(0,⟨[(5,.c xs)],[]⟩)])]⟩
def OY:Sig:=.of [Sq0] [Dn,Df] (fun a=>JX N a)
theorem RJ:Dc 122 (OY N):=Di (Dh [(40,Ik N),(181,VQ N),(180,nG N),(73,Fg N)] oM) vC Tryz.f122 N (CZ ⟨Ig N,gW N,Abp N,EJ N,trivial⟩)
def Qa:Sig:=.of [.cell false (.sl 183 Tq4)] [Df] (fun a=>Jn N a)
theorem WM:Dc 252 (Qa N):=Di (Dh [(295,Xm N)] []) ⟨[],[]⟩ Tryz.f252 N (CZ ⟨lJ N,trivial⟩)
def vM:Sig:=.of [Dn,Dn] [Dn,Df] (fun a=>XB N a.1 a.2)
theorem Adt:Dc 69 (vM N):=Di (Dh [(130,nP N),(125,NP N),(129,Qm N)] []) ⟨[],[]⟩ Tryz.f69 N (CZ ⟨Abx N,MC N,TU N,trivial⟩)
def oO:List (Nat×Nrm):=[(3,⟨[],[],[],[],[]⟩),(18,⟨[2,3,15,16],[],[],[],[]⟩)]
def vG:Lk:=⟨[],[(18,⟨[(2,.c AB),(3,.c AO),(15,.i),(16,.c x64)],[(33280,.box [Bc]),(33536,.box [Bc])]⟩,[(0,⟨[],[]⟩)])]⟩
def VP:Sig:=.of [Sq0,Sq0] [DK] (fun a=>QZ N a.1 a.2)
theorem gV:Dc 97 (VP N):=Di (Dh [(158,YS N)] oO) vG Tryz.f97 N (CZ ⟨oQ N,trivial⟩)
def X9:List (Nat×Nrm):=[(3,⟨[5],[],[],[],[]⟩),(26,⟨[5,17,18,19],[],[],[],[]⟩),(45,⟨[5,7,8,17,18,19],[],[],[],[]⟩)]
def YU:Lk:=⟨[(45,⟨[(5,.i),(7,.c AY),(8,.c xs),(17,.i),(18,.i),(19,.i)],[(34560,.box [xs,xb,xs])]⟩)],[(26,⟨[(5,.c xs),(17,.i),(18,.i),(19,.c x64)],[]⟩,[(0,⟨[(5,.c xs)],[]⟩)])]⟩
def JY:Sig:=.of [.cell false (.sl 183 Tq4)] [Dn,Df] (fun a=>Fq N a)
theorem MK:Dc 185 (JY N):=Di (Dh [(252,Qa N),(253,OW N),(73,Fg N),(125,NP N),(191,Vo N)] X9) YU Tryz.f185 N (CZ ⟨WM N,RG N,EJ N,MC N,UQ N,trivial⟩)
def LK:Sig:=.of [Sq0,Sq0] [DK] (fun a=>EP N a.1 a.2)
theorem Nq:Dc 51 (LK N):=Di (Dh [(97,VP N)] []) ⟨[],[]⟩ Tryz.f51 N (CZ ⟨gV N,trivial⟩)
def RH:Sig:=.of [Ad7,DK] [Dn,Df] (fun a=>I8 N a.1 a.2)
theorem YN:Dc 294 (RH N):=Di (Dh [(156,Np N),(122,OY N),(73,Fg N)] []) ⟨[],[]⟩ Tryz.f294 N (CZ ⟨PY N,RJ N,EJ N,trivial⟩)
def aF:Sig:=.of [Df,.cell false (.sl 183 Tq4)] [Dn,Df] (fun a=>NF N a.1 a.2)
theorem vT:Dc 127 (aF N):=Di (Dh [(185,JY N),(125,NP N)] []) ⟨[],[]⟩ Tryz.f127 N (CZ ⟨MK N,MC N,trivial⟩)
def VS:Sig:=.of [Sq2] [Df] (fun a=>Ko N a)
theorem iD:Dc 41 (VS N):=Di (Dh [(93,Xn N),(94,OZ N)] []) ⟨[],[]⟩ Tryz.f41 N (CZ ⟨lK N,RQ N,trivial⟩)
def lH:List (Nat×Nrm):=[(3,⟨[],[],[],[],[]⟩),(18,⟨[10,11,12],[],[],[],[]⟩)]
def oU:Lk:=⟨[],[(18,⟨[(10,.i),(11,.i),(12,.c x64)],[]⟩,[(0,⟨[],[]⟩)])]⟩
def NY:Sig:=.of [.cell false (.sl 134 Tq3)] [Df] (fun a=>Il N a)
theorem QA:Dc 42 (NY N):=Di (Dh [(94,OZ N),(40,Ik N)] lH [] [] [] [20,24,25,29,35,36]) oU Tryz.f42 N (CZ ⟨RQ N,Ig N,trivial⟩)
def oV:List (Nat×Nrm):=[(3,⟨[],[],[],[],[]⟩),(66,⟨[1,2,5,7],[],[],[],[]⟩)]
def vP:Lk:=⟨[],[(66,⟨[(1,.i),(2,.c AB),(5,.c AQ),(7,.c x64)],[(33280,.box Bj),(34048,.box Bq)]⟩,[(0,⟨[],[]⟩)])]⟩
def VR:Sig:=.of [Sq2,Df] [Df] (fun a=>Ns N a.1 a.2)
theorem iC:Dc 43 (VR N):=Di (Dh [(95,iE N),(40,Ik N),(51,LK N)] oV [] [] [] [24,28,29,33,34,38]) vP Tryz.f43 N (CZ ⟨yY N,Ig N,Nq N,trivial⟩)
def vJ:List (Nat×Nrm):=[(3,⟨[6],[],[],[],[]⟩),(10,⟨[2,4,6,11,12,13],[],[],[],[]⟩)]
def yV:Lk:=⟨[],[(10,⟨[(2,.i),(4,.c AP),(6,.c AV),(11,.i),(12,.i),(13,.c x64)],[(33792,.box [Bc]),(34304,.box [A7,A7,A7,A7,(xo 34309)]),(34309,.DU 74 false Aq)]⟩,[(0,⟨[(6,.c AV)],[(34304,.box [A7,A7,A7,A7,(xo 34309)]),(34309,.DU 74 false Aq)]⟩)])]⟩
def Qn:Sig:=.of [Sq2,Sq0,Df] [Sq3,DK] (fun a=>Lj N a.1 a.2.1 a.2.2)
theorem TW:Dc 18 (Qn N):=Di (Dh [(51,LK N)] vJ) yV Tryz.f18 N (CZ ⟨Nq N,trivial⟩)
def oL:List (Nat×Nrm):=[(3,⟨[4],[],[],[],[]⟩),(30,⟨[4,15,16,17],[],[],[],[]⟩)]
def uZ:Lk:=⟨[],[(30,⟨[(4,.c xs),(15,.i),(16,.i),(17,.c x64)],[]⟩,[(0,⟨[(4,.c xs)],[]⟩)])]⟩
def OX:Sig:=.of [.cell false (.sl 85 Tq2)] [Dn,Df] (fun a=>JW N a)
theorem RI:Dc 251 (OX N):=Di (Dh [(294,RH N)] oL) uZ Tryz.f251 N (CZ ⟨YN N,trivial⟩)
def xZ:List (Nat×Nrm):=[(7,⟨[],[],[],[],[]⟩),(21,⟨[3,34],[],[],[],[]⟩),(46,⟨[66,67,68],[],[],[],[]⟩)]
def Aa9:Lk:=⟨[(21,⟨[(3,.c AO),(34,.c xb)],[(33536,.box [Bd,xb,xb,x64,xb])]⟩)],[(46,⟨[(66,.i),(67,.i),(68,.c x64)],[]⟩,[(1,⟨[],[]⟩)])]⟩
def Yb:Sig:=.of [Sq2] [Df] (fun a=>LU N a)
theorem nZ:Dc 37 (Yb N):=Di (Dh [(87,N8 N)] xZ [] [] [] [14,18,19,23,24,28,29,33,44,46,49,52,53,54]) Aa9 Tryz.f37 N (CZ ⟨MS N,trivial⟩)
def dM:List (Nat×Nrm):=[(3,⟨[],[],[],[],[]⟩),(10,⟨[6,7,8],[],[],[],[]⟩)]
def iO:Lk:=⟨[],[(10,⟨[(6,.i),(7,.i),(8,.c x64)],[]⟩,[(0,⟨[],[]⟩)])]⟩
def Sm:Sig:=.of [.cell false (.sl 85 Tq2)] [Df] (fun a=>KU N a)
theorem Zh:Dc 152 (Sm N):=Di (Dh [(87,N8 N)] dM) iO Tryz.f152 N (CZ ⟨MS N,trivial⟩)
def PE:Sig:=.of [Ad7,DK] [Dn,Df] (fun a=>Ic N a.1 a.2)
theorem Qg:Dc 134 (PE N):=Di (Dh [(87,N8 N),(136,JA N),(79,UA N)] []) ⟨[],[]⟩ Tryz.f134 N (CZ ⟨MS N,Iw N,WZ N,trivial⟩)
def Qi:Sig:=.of [Sq9] [KD] (fun a=>Lh N a)
theorem Tj:Dc 67 (Qi N):=Di (Dh [(119,Ky N),(120,VC N),(121,Un N)] []) ⟨[],[]⟩ Tryz.f67 N (CZ ⟨Lu N,fM N,bJ N,trivial⟩)
def Acw:List (Nat×Nrm):=[(29,⟨[1,2,4,6,11,13],[],[],[],[]⟩),(53,⟨[1,4,6],[],[(some 34304,2,Aq)],[],[]⟩)]
def Aek:Lk:=⟨[(29,⟨[(1,.i),(2,.c AB),(4,.c AP),(6,.c AV),(11,.i),(13,.c xb)],[(33280,.box [x64,xs,xs]),(33792,.box [A7,A8,(xo 33795)]),(33795,.DU 74 false Aq),(34304,.box [A7,A8,(xo 34307)]),(34307,.DU 74 false Aq)]⟩),(53,⟨[(1,.i),(4,.c AP),(6,.c AV)],[(33792,.box [A7,A8,(xo 33795)]),(33795,.DU 74 false Aq),(34304,.box [x64,xs,Bc])]⟩)],[]⟩
def eX:Sig:=.of [KD,DK] [Ad7,Df] (fun a=>JL N a.1 a.2)
theorem yG:Dc 314 (eX N):=Di (Dh [(107,U1 N),(87,N8 N)] Acw) Aek Tryz.f314 N (CZ ⟨WY N,MS N,trivial⟩)
def qK:Sig:=.of [Sq2,KD] [Df] (fun a=>Su N a.1 a.2)
theorem AbP:Dc 27 (qK N):=Di (Dh [(65,ZK N)] []) ⟨[],[]⟩ Tryz.f27 N (CZ ⟨tX N,trivial⟩)
def vI:List (Nat×Nrm):=[(3,⟨[],[],[],[],[]⟩),(94,⟨[1,104,105],[],[],[],[]⟩)]
def yU:Lk:=⟨[],[(94,⟨[(1,.c AU),(104,.i),(105,.c x64)],[(33024,.box Bj)]⟩,[(0,⟨[],[]⟩)])]⟩
def Xl:Sig:=.of [Sq2] [Df] (fun a=>Ol N a)
theorem lG:Dc 11 (Xl N):=Di (Dh [(40,Ik N),(41,VS N),(42,NY N),(43,VR N)] vI [] [] [] [22,26,27,31,32,36,37,43,47,51,52,56,57,61,62,66,72,73]) yU Tryz.f11 N (CZ ⟨Ig N,iD N,QA N,iC N,trivial⟩)
def Aie:List (Nat×Nrm):=[(7,⟨[2,3],[],[],[(33652,1036864),(1020480,1036864)],[1036864]⟩),(17,⟨[0,2,3],[],[],[],[]⟩),(25,⟨[0,2,3],[],[],[],[]⟩),(33,⟨[0,2,3],[],[],[],[]⟩),(69,⟨[0,2,3],[],[(some 33536,9,Tq2)],[],[]⟩),(77,⟨[0,2,3],[],[(some 33536,14,Tq3)],[],[]⟩),(82,⟨[0,2,3,4],[],[],[(33652,1020480),(69632,1020480),(1032768,1020480)],[1020480]⟩),(101,⟨[0,2,3,4,5],[],[],[(33652,1024576),(1020480,1024576)],[1024576]⟩),(109,⟨[0,2,3,4,5],[],[],[(33652,1028672),(1024576,1028672)],[1028672]⟩),(117,⟨[0,2,3,4,5],[],[],[(33652,1032768),(1028672,1032768)],[1032768]⟩)]
def Aj9:Lk:=⟨[(17,⟨[(0,.c AL),(2,.c AB),(3,.c AO)],[(0,.box BA),(33280,.box Bl),(33283,.DU 74 false Aq),(33290,.DU 85 false Tq2),(33295,.DU 134 false Tq3),(33296,.DU 35 false Tq1),(33536,.box [A8,A8,Bc,x64,x64,x64,(.c (.int .i64 (-1))),A8,AA,(xo 33646),AA,AA,A7,AA,(xo 33651),(xo 33652),A8]),(33646,.DU 85 false Tq2),(33651,.DU 134 false Tq3),(33652,.DU 35 false Tq1)]⟩),(25,⟨[(0,.c AL),(2,.c AB),(3,.c AO)],[(0,.box BA),(33280,.box Bl),(33283,.DU 74 false Aq),(33290,.DU 85 false Tq2),(33295,.DU 134 false Tq3),(33296,.DU 35 false Tq1),(33536,.box [A8,A8,Bc,x64,x64,x64,x64,A8,AA,(xo 33646),AA,AA,A7,AA,(xo 33651),(xo 33652),A8]),(33646,.DU 85 false Tq2),(33651,.DU 134 false Tq3),(33652,.DU 35 false Tq1)]⟩),(33,⟨[(0,.c AL),(2,.c AB),(3,.c AO)],[(0,.box BA),(33280,.box Bl),(33283,.DU 74 false Aq),(33290,.DU 85 false Tq2),(33295,.DU 134 false Tq3),(33296,.DU 35 false Tq1),(33536,.box [A8,A8,Bc,x64,x64,x64,x64,xs,AA,(xo 33646),AA,AA,A7,AA,(xo 33651),(xo 33652),A8]),(33646,.DU 85 false Tq2),(33651,.DU 134 false Tq3),(33652,.DU 35 false Tq1)]⟩),(69,⟨[(0,.c AL),(2,.c AB),(3,.c AO)],[(0,.box BA),(33280,.box Bl),(33283,.DU 74 false Aq),(33290,.DU 85 false Tq2),(33295,.DU 134 false Tq3),(33296,.DU 35 false Tq1),(33536,.box [A8,A8,Bc,x64,x64,x64,x64,xs,xb,Bd,xb,xb,x64,xb,(xo 33651),(xo 33652),A8]),(33651,.DU 134 false Tq3),(33652,.DU 35 false Tq1)]⟩),(77,⟨[(0,.c AL),(2,.c AB),(3,.c AO)],[(0,.box BA),(33280,.box Bl),(33283,.DU 74 false Aq),(33290,.DU 85 false Tq2),(33295,.DU 134 false Tq3),(33296,.DU 35 false Tq1),(33536,.box [A8,A8,Bc,x64,x64,x64,x64,xs,xb,Bd,xb,xb,x64,xb,Be,(xo 33652),A8]),(33652,.DU 35 false Tq1)]⟩),(101,⟨[(0,.c AL),(2,.c AB),(3,.c AO),(4,.i),(5,.c AQ)],[(0,.box BA),(33280,.box Bl),(33283,.DU 74 false Aq),(33290,.DU 85 false Tq2),(33295,.DU 134 false Tq3),(33296,.DU 35 false Tq1),(33536,.box [A8,A8,Bc,x64,x64,x64,x64,xs,xb,Bd,xb,xb,x64,xb,Be,(xo 1024576),A8]),(34048,.box Bq),(1024576,.arr 35 true Tq1)]⟩),(109,⟨[(0,.c AL),(2,.c AB),(3,.c AO),(4,.i),(5,.c AQ)],[(0,.box BA),(33280,.box Bl),(33283,.DU 74 false Aq),(33290,.DU 85 false Tq2),(33295,.DU 134 false Tq3),(33296,.DU 35 false Tq1),(33536,.box [A8,A8,Bc,x64,x64,x64,x64,xs,xb,Bd,xb,xb,x64,xb,Be,(xo 1028672),A8]),(34048,.box Bq),(1028672,.arr 35 true Tq1)]⟩),(117,⟨[(0,.c AL),(2,.c AB),(3,.c AO),(4,.i),(5,.c AQ)],[(0,.box BA),(33280,.box Bl),(33283,.DU 74 false Aq),(33290,.DU 85 false Tq2),(33295,.DU 134 false Tq3),(33296,.DU 35 false Tq1),(33536,.box [A8,A8,Bc,x64,x64,x64,x64,xs,xb,Bd,xb,xb,x64,xb,Be,(xo 1032768),A8]),(34048,.box Bq),(1032768,.arr 35 true Tq1)]⟩)],[(82,⟨[(0,.c AL),(2,.c AB),(3,.c AO),(4,.c x64)],[(0,.box BA),(33280,.box Bl),(33283,.DU 74 false Aq),(33290,.DU 85 false Tq2),(33295,.DU 134 false Tq3),(33296,.DU 35 false Tq1),(33536,.box [A8,A8,Bc,x64,x64,x64,x64,xs,xb,Bd,xb,xb,x64,xb,Be,(xo 1020480),A8]),(1020480,.arr 35 true Tq1)]⟩,[(1,⟨[(2,.c AB),(3,.c AO)],[(0,.box BA),(33280,.box Bl),(33283,.DU 74 false Aq),(33290,.DU 85 false Tq2),(33295,.DU 134 false Tq3),(33296,.DU 35 false Tq1),(33536,.box [A8,A8,Bc,x64,x64,x64,x64,xs,xb,Bd,xb,xb,x64,xb,Be,(xo 1036864),A8]),(1036864,.arr 35 true Tq1)]⟩)])]⟩
def zZ:Sig:=.of [pJ] [Sq2] (fun a=>ZI N a)
theorem Aey:Dc 15 (zZ N):=Di (Dh [(16,Hm N),(8,JR N),(46,Aac N),(47,UE N),(48,mP N),(18,Qn N)] Aie) Aj9 Tryz.f15 N (CZ ⟨G9 N,Kw N,Ae1 N,Xc N,AaU N,TW N,trivial⟩)
def Qo:Sig:=.of [Sq0] [Dn] (fun a=>Ih N a)
theorem TY:Dc 184 (Qo N):=Di (Dh [(251,OX N)] []) ⟨[],[]⟩ Tryz.f184 N (CZ ⟨RI N,trivial⟩)
def Qp:Sig:=.of [.cell false (.sl 85 Tq2)] [Dn] (fun a=>Gg N a)
theorem TZ:Dc 186 (Qp N):=Di (Dh [(251,OX N),(73,Fg N)] []) ⟨[],[]⟩ Tryz.f186 N (CZ ⟨RI N,EJ N,trivial⟩)
def dN:List (Nat×Nrm):=[(13,⟨[1,4],[],[],[],[]⟩)]
def iP:Lk:=⟨[(13,⟨[(1,.c AU),(4,.c xb)],[(33024,.box BJ)]⟩)],[]⟩
def Sr:Sig:=.of [Ar1] [Df] (fun a=>KW N a)
theorem Zi:Dc 88 (Sr N):=Di (Dh [(152,Sm N),(35,Jr N)] dN) iP Tryz.f88 N (CZ ⟨Zh N,IG N,trivial⟩)
def AbT:List (Nat×Nrm):=[(17,⟨[0,4,5,7],[([7],183,Tq4,1000000)],[],[(38400,1000000)],[]⟩),(25,⟨[0,4,5,7],[],[],[(41984,1004096),(1000000,1004096)],[]⟩),(37,⟨[0,4,7],[],[],[(47360,1008192),(1004096,1008192)],[]⟩),(49,⟨[0,4,9],[],[],[],[]⟩)]
def AdK:Lk:=⟨[(17,⟨[(0,.c AL),(4,.c AP),(5,.c AQ),(7,.c (xo 1000000))],[(0,.box [xb]),(33792,.box Bq),(34048,.box [Bc]),(1000000,.arr 183 false Tq4)]⟩),(25,⟨[(0,.c AL),(4,.c AP),(5,.c AQ),(7,.c (xo 1004096))],[(0,.box [xb]),(33792,.box Bq),(34048,.box [Bc]),(1004096,.arr 183 false Tq4)]⟩),(37,⟨[(0,.c AL),(4,.c AP),(7,.c (xo 1008192))],[(0,.box [xb]),(33792,.box Bq),(1008192,.arr 183 false Tq4)]⟩),(49,⟨[(0,.c AL),(4,.c AP),(9,.c xs)],[(0,.box [xb]),(33792,.box Bq)]⟩)],[]⟩
def dW:Sig:=.of [.box [(false,.bool)],Sq3,Sq0] [Dn] (fun a=>SA N a.1 a.2.1 a.2.2)
theorem yA:Dc 74 (dW N):=Di (Dh [(133,Ql N),(81,EY N),(80,Wh N),(78,FX N),(91,QH N),(134,PE N),(75,Hf N),(82,Yr N),(76,MQ N)] AbT) AdK Tryz.f74 N (CZ ⟨TL N,EN N,Yf N,FP N,QT N,Qg N,G8 N,ZA N,NU N,trivial⟩)
def o7:List (Nat×Nrm):=[(3,⟨[5],[],[],[],[]⟩),(26,⟨[5,16,17,18],[],[],[],[]⟩)]
def rX:Lk:=⟨[],[(26,⟨[(5,.c xs),(16,.i),(17,.i),(18,.c x64)],[]⟩,[(0,⟨[(5,.c xs)],[]⟩)])]⟩
def OD:Sig:=.of [.cell false (.sl 85 Tq2)] [Dn,Df] (fun a=>Hg N a)
theorem Rx:Dc 201 (OD N):=Di (Dh [(266,Wu N),(134,PE N)] o7) rX Tryz.f201 N (CZ ⟨Yt N,Qg N,trivial⟩)
def oH:List (Nat×Nrm):=[(3,⟨[10],[],[],[],[]⟩),(42,⟨[0,10,11,12],[],[],[],[]⟩)]
def tN:Lk:=⟨[],[(42,⟨[(0,.c AL),(10,.c xs),(11,.c x64),(12,.c x64)],[(0,.box Bz)]⟩,[(0,⟨[(10,.c xs)],[(0,.box Bz)]⟩)])]⟩
def VB:Sig:=.of [Sq9,Df,Dn] [Dn,Df] (fun a=>MX N a.1 a.2.1 a.2.2)
theorem fK:Dc 102 (VB N):=Di (Dh [(119,Ky N),(99,J7 N),(67,Qi N),(117,Tm N),(160,AcX N),(161,Vh N)] oH [] [] [] [] [] [(67,[(0,1),(0,2),(0,3)])]) tN Tryz.f102 N (CZ ⟨Lu N,KE N,Tj N,VE N,Agr N,UG N,trivial⟩)
def o6:List (Nat×Nrm):=[(3,⟨[7],[([7],85,Tq2,1004096)],[],[(1000000,1004096)],[]⟩),(38,⟨[7,26,27,28],[([7],85,Tq2,1000000)],[],[(43776,1000000)],[]⟩)]
def rW:Lk:=⟨[],[(38,⟨[(7,.c (xo 1000000)),(26,.i),(27,.i),(28,.c x64)],[(1000000,.arr 85 false Tq2)]⟩,[(0,⟨[(7,.c (xo 1004096))],[(1004096,.arr 85 false Tq2)]⟩)])]⟩
def La:Sig:=.of [Dn] [.cell false (.sl 85 Tq2),Df] (fun a=>Fj N a)
theorem LZ:Dc 289 (La N):=Di (Dh [(163,J9 N),(266,Wu N),(314,eX N)] o6) rW Tryz.f289 N (CZ ⟨Iu N,Yt N,yG N,trivial⟩)
def Ur:Sig:=.of [Aa2] [KD] (fun a=>J4 N a)
theorem dB:Dc 28 (Ur N):=Di (Dh [(66,J8 N),(67,Qi N)] [] [] [] [] [] [] [(67,[(0,1),(0,2),(0,3)])]) ⟨[],[]⟩ Tryz.f28 N (CZ ⟨KF N,Tj N,trivial⟩)
def AeX:List (Nat×Nrm):=[(17,⟨[2,3,5],[([5],183,Tq4,1000000)],[],[(37888,1000000)],[]⟩),(29,⟨[2,3,5],[],[],[(41472,1004096),(1000000,1004096)],[]⟩),(37,⟨[2,5],[],[],[(45056,1008192),(1004096,1008192)],[]⟩),(49,⟨[2,8],[],[],[],[]⟩)]
def AgB:Lk:=⟨[(17,⟨[(2,.c AB),(3,.c AO),(5,.c (xo 1000000))],[(33280,.box Bq),(33536,.box [Bc]),(1000000,.arr 183 false Tq4)]⟩),(29,⟨[(2,.c AB),(3,.c AO),(5,.c (xo 1004096))],[(33280,.box Bq),(33536,.box [Bc]),(1004096,.arr 183 false Tq4)]⟩),(37,⟨[(2,.c AB),(5,.c (xo 1008192))],[(33280,.box Bq),(1008192,.arr 183 false Tq4)]⟩),(49,⟨[(2,.c AB),(8,.c xs)],[(33280,.box Bq)]⟩)],[]⟩
def nO:Sig:=.of [Sq3,Sq0] [Dn] (fun a=>Vq N a.1 a.2)
theorem Abw:Dc 124 (nO N):=Di (Dh [(128,PR N),(123,OV N),(51,LK N),(184,Qo N),(73,Fg N),(185,JY N)] AeX) AgB Tryz.f124 N (CZ ⟨Qq N,RF N,Nq N,TY N,EJ N,MK N,trivial⟩)
def gZ:List (Nat×Nrm):=[(3,⟨[5],[],[],[],[]⟩),(34,⟨[5,17,18,19],[],[],[],[]⟩),(53,⟨[5,7,8,17,18,19],[],[],[],[]⟩)]
def lI:Lk:=⟨[(53,⟨[(5,.i),(7,.c AY),(8,.c xs),(17,.i),(18,.i),(19,.i)],[(34560,.box BJ)]⟩)],[(34,⟨[(5,.c xs),(17,.i),(18,.i),(19,.c x64)],[]⟩,[(0,⟨[(5,.c xs)],[]⟩)])]⟩
def TV:Sig:=.of [.cell false (.sl 134 Tq3)] [Dn,Df] (fun a=>Ja N a)
theorem Zo:Dc 189 (TV N):=Di (Dh [(42,NY N),(184,Qo N),(73,Fg N),(186,Qp N),(188,WN N),(125,NP N)] gZ) lI Tryz.f189 N (CZ ⟨QA N,TY N,EJ N,TZ N,YW N,MC N,trivial⟩)
def aI:List (Nat×Nrm):=[(3,⟨[],[],[],[],[]⟩),(18,⟨[9,10,11],[],[],[],[]⟩)]
def dL:Lk:=⟨[],[(18,⟨[(9,.i),(10,.i),(11,.c x64)],[]⟩,[(0,⟨[],[]⟩)])]⟩
def Jf:Sig:=.of [.cell false (.sl 134 Tq3)] [Df] (fun a=>F5 N a)
theorem JK:Dc 38 (Jf N):=Di (Dh [(88,Sr N)] aI) dL Tryz.f38 N (CZ ⟨Zi N,trivial⟩)
def AbU:List (Nat×Nrm):=[(17,⟨[0,3,5,6],[],[],[],[]⟩),(25,⟨[0,3,5,6],[],[],[],[]⟩)]
def AdL:Lk:=⟨[(17,⟨[(0,.c AL),(3,.c AO),(5,.c xs),(6,.i)],[(0,.box [xb]),(33536,.box [Bd,xb,xb,x64,xb])]⟩),(25,⟨[(0,.c AL),(3,.c AO),(5,.i),(6,.c xs)],[(0,.box [xb]),(33536,.box [Bd,xb,xb,x64,xb])]⟩)],[]⟩
def dX:Sig:=.of [.box [(false,.bool)],Ao0] [Dn] (fun a=>O8 N a.1 a.2)
theorem yB:Dc 143 (dX N):=Di (Dh [(201,OD N),(78,FX N),(81,EY N),(202,TK N),(203,WX N),(75,Hf N)] AbU) AdL Tryz.f143 N (CZ ⟨Rx N,FP N,EN N,VL N,jC N,G8 N,trivial⟩)
def Ug:Sig:=.of [Aa2,Dn] [Dn,Df] (fun a=>Jb N a.1 a.2)
theorem Zr:Dc 55 (Ug N):=Di (Dh [(66,J8 N),(101,Uf N),(102,VB N)] []) ⟨[],[]⟩ Tryz.f55 N (CZ ⟨KF N,Zq N,fK N,trivial⟩)
def Zz:Sig:=.of [Dn] [Sq0,Df] (fun a=>Ny N a)
theorem qN:Dc 287 (Zz N):=Di (Dh [(103,Ip N),(289,La N)] []) ⟨[],[]⟩ Tryz.f287 N (CZ ⟨LW N,LZ N,trivial⟩)
def AbS:List (Nat×Nrm):=[(53,⟨[2,4,5,6],[],[(some 34048,0,Tq2)],[],[]⟩),(105,⟨[2,4,5,6],[],[],[],[]⟩)]
def AdJ:Lk:=⟨[(53,⟨[(2,.c AB),(4,.c AP),(5,.c AQ),(6,.c (.c (.ptr 36864 0)))],[(33280,.box [(xo 33281),AA,AA,A7,AA]),(33281,.DU 85 false Tq2),(33792,.box [(xo 33793),AA,AA,A7,AA]),(33793,.DU 85 false Tq2),(34048,.box [Bd,AA,AA,A7,AA]),(36864,.box [Bi])]⟩),(105,⟨[(2,.c AB),(4,.c AP),(5,.c AQ),(6,.c (.c (.ptr 36864 0)))],[(33280,.box [(xo 33281),AA,AA,A7,AA]),(33281,.DU 85 false Tq2),(33792,.box [(xo 33793),AA,AA,A7,AA]),(33793,.DU 85 false Tq2),(34048,.box [Bd,xb,xb,x64,AA]),(36864,.box [Bi])]⟩)],[]⟩
def dR:Sig:=.of [Dn] [Ao0,Df] (fun a=>O7 N a)
theorem y8:Dc 243 (dR N):=Di (Dh [(109,IE N),(103,Ip N),(289,La N),(290,WW N),(291,YE N),(61,Gv N)] AbS [(56,P7 N)]) AdJ Tryz.f243 N (CZ ⟨I5 N,LW N,LZ N,jB N,ZP N,Gp N,trivial⟩ ⟨SE N,trivial⟩)
def aN:List (Nat×Nrm):=[(45,⟨[0,2,4,5],[],[(some 34048,0,Tq2)],[],[]⟩),(73,⟨[0,2,4,5],[],[],[],[]⟩),(105,⟨[0,2,4,5],[],[(some 34048,3,Aq)],[],[]⟩)]
def dO:Lk:=⟨[(45,⟨[(0,.c AL),(2,.c AB),(4,.c AP),(5,.c AQ)],[(0,.box [Bi]),(33280,.box BD),(33281,.DU 85 false Tq2),(33284,.DU 74 false Aq),(33792,.box BF),(33793,.DU 85 false Tq2),(33796,.DU 74 false Aq),(34048,.box [Bd,A7,AA,(xo 34052)]),(34052,.DU 74 false Aq)]⟩),(73,⟨[(0,.c AL),(2,.c AB),(4,.c AP),(5,.c AQ)],[(0,.box [Bi]),(33280,.box BD),(33281,.DU 85 false Tq2),(33284,.DU 74 false Aq),(33792,.box BF),(33793,.DU 85 false Tq2),(33796,.DU 74 false Aq),(34048,.box [Bd,x64,AA,(xo 34052)]),(34052,.DU 74 false Aq)]⟩),(105,⟨[(0,.c AL),(2,.c AB),(4,.c AP),(5,.c AQ)],[(0,.box [Bi]),(33280,.box BD),(33281,.DU 85 false Tq2),(33284,.DU 74 false Aq),(33792,.box BF),(33793,.DU 85 false Tq2),(33796,.DU 74 false Aq),(34048,.box BJ)]⟩)],[]⟩
def Rk:Sig:=.of [Qb] [Ar1,Df] (fun a=>Kr N a)
theorem XX:Dc 292 (Rk N):=Di (Dh [(109,IE N),(103,Ip N),(289,La N),(291,YE N),(61,Gv N)] aN) dO Tryz.f292 N (CZ ⟨I5 N,LW N,LZ N,ZP N,Gp N,trivial⟩)
def Zp:List (Nat×Nrm):=[(17,⟨[1,4],[([4],183,Tq4,1000000)],[],[(37888,1000000)],[]⟩),(29,⟨[1,4],[],[],[(39680,1004096),(42240,1004096)],[]⟩),(41,⟨[1,4],[],[],[(49664,1008192),(1004096,1008192)],[]⟩)]
def bZ:Lk:=⟨[(17,⟨[(1,.c AU),(4,.c (xo 1000000))],[(33024,.box Bj),(1000000,.arr 183 false Tq4)]⟩),(29,⟨[(1,.c AU),(4,.c (xo 1004096))],[(33024,.box Bj),(1004096,.arr 183 false Tq4)]⟩),(41,⟨[(1,.c AU),(4,.c (xo 1008192))],[(33024,.box Bj),(1008192,.arr 183 false Tq4)]⟩)],[]⟩
def QB:Sig:=.of [Sq2] [.cell false (.sl 183 Tq4),Df] (fun a=>Ii N a)
theorem XC:Dc 126 (QB N):=Di (Dh [(73,Fg N),(128,PR N),(186,Qp N),(187,aC N),(188,WN N),(189,TV N)] Zp) bZ Tryz.f126 N (CZ ⟨EJ N,Qq N,TZ N,vN N,YW N,Zo N,trivial⟩)
def Ahy:List (Nat×Nrm):=[(3,⟨[],[],[],[],[]⟩),(94,⟨[1,88,89],[],[],[],[]⟩)]
def Ajn:Lk:=⟨[],[(94,⟨[(1,.c AU),(88,.i),(89,.c x64)],[(33024,.box Bj)]⟩,[(0,⟨[],[]⟩)])]⟩
def aO:Sig:=.of [Sq2] [Df] (fun a=>O5 N a)
theorem dP:Dc 10 (aO N):=Di (Dh [(35,Jr N),(36,iY N),(37,Yb N),(38,Jf N),(39,Ya N)] Ahy [] [] [] [40,45,46,50,56,57]) Ajn Tryz.f10 N (CZ ⟨IG N,mF N,nZ N,JK N,nY N,trivial⟩)
def Zg:List (Nat×Nrm):=[(3,⟨[5,6],[([6],9,Au,1016384)],[],[(1000000,1016384)],[]⟩),(38,⟨[5,6,22,23,24],[([6],9,Au,1000000)],[],[(54272,1000000)],[]⟩),(57,⟨[5,6,8,9,22,23,24],[([6],9,Au,1004096)],[],[(1000000,1004096)],[]⟩),(65,⟨[5,6,8,9,22,23,24],[([6],9,Au,1008192)],[],[(1004096,1008192)],[]⟩),(77,⟨[5,6,9,22,23,24],[([6],9,Au,1012288)],[],[(1008192,1012288)],[]⟩)]
def aK:Lk:=⟨[(57,⟨[(5,.c AZ),(6,.c (xo 1004096)),(8,.c AX),(9,.c (xo 39936)),(22,.i),(23,.i),(24,.i)],[(34816,.box BJ),(38144,.box [xb]),(39936,.arr 9 false Au),(1004096,.arr 9 false Au)]⟩),(65,⟨[(5,.c AZ),(6,.c (xo 1008192)),(8,.c AX),(9,.c (xo 39936)),(22,.i),(23,.i),(24,.i)],[(34816,.box BJ),(38144,.box [xb]),(39936,.arr 9 false Au),(1008192,.arr 9 false Au)]⟩),(77,⟨[(5,.c AZ),(6,.c (xo 1012288)),(9,.c (xo 39936)),(22,.i),(23,.i),(24,.i)],[(38144,.box [xb]),(39936,.arr 9 false Au),(1012288,.arr 9 false Au)]⟩)],[(38,⟨[(5,.c AZ),(6,.c (xo 1000000)),(22,.i),(23,.i),(24,.c x64)],[(38144,.box [xb]),(1000000,.arr 9 false Au)]⟩,[(0,⟨[(5,.c AZ),(6,.c (xo 1016384))],[(38144,.box [xb]),(1016384,.arr 9 false Au)]⟩)])]⟩
def Qu:Sig:=.of [.cell false (.sl 134 Tq3)] [Dn,Df] (fun a=>HY N a)
theorem Xy:Dc 144 (Qu N):=Di (Dh [(38,Jf N),(201,OD N),(78,FX N),(81,EY N),(202,TK N),(134,PE N),(75,Hf N),(84,QS N)] Zg) aK Tryz.f144 N (CZ ⟨JK N,Rx N,FP N,EN N,VL N,Qg N,G8 N,NT N,trivial⟩)
def Z7:Sig:=.of [Atp,Ahj] [Df] (fun a=>KI N a.1 a.2)
theorem qQ:Dc 239 (Z7 N):=Di (Dh [(242,VZ N),(286,mD N),(287,Zz N)] []) ⟨[],[]⟩ Tryz.f239 N (CZ ⟨Yc N,AaB N,qN N,trivial⟩)
def Zf:List (Nat×Nrm):=[(3,⟨[6],[([6],134,Tq3,1004096)],[],[(1000000,1004096)],[]⟩),(30,⟨[4,6],[([6],134,Tq3,1000000)],[],[(44032,1000000)],[]⟩)]
def aJ:Lk:=⟨[],[(30,⟨[(4,.c (.c (.ptr 36096 0))),(6,.c (xo 1000000))],[(36096,.box [Bi]),(1000000,.arr 134 false Tq3)]⟩,[(0,⟨[(6,.c (xo 1004096))],[(1004096,.arr 134 false Tq3)]⟩)])]⟩
def Qs:Sig:=.of [Dn] [.cell false (.sl 134 Tq3),Df] (fun a=>H9 N a)
theorem Xx:Dc 244 (Qs N):=Di (Dh [(167,Qe N),(292,Rk N),(38,Jf N)] Zf [(56,P7 N),(168,Kt N)]) aJ Tryz.f244 N (CZ ⟨SG N,XX N,JK N,trivial⟩ ⟨SE N,Ro N,trivial⟩)
def bY:List (Nat×Nrm):=[(3,⟨[1,5,7,9,11],[],[],[],[]⟩),(42,⟨[1,5,7,9,11,12,46,47,48],[],[],[],[]⟩),(81,⟨[1,5,7,9,11],[],[],[],[]⟩)]
def gY:Lk:=⟨[(81,⟨[(1,.c AU),(5,.i),(7,.i),(9,.i),(11,.c xs)],[(33024,.box Bj)]⟩)],[(42,⟨[(1,.c AU),(5,.i),(7,.i),(9,.i),(11,.c xs),(12,.c (.c (.ptr 35840 0))),(46,.i),(47,.i),(48,.c x64)],[(33024,.box Bj),(35840,.box [Bc])]⟩,[(0,⟨[(1,.c AU),(5,.i),(7,.i),(9,.i),(11,.c xs)],[(33024,.box Bj)]⟩)])]⟩
def RP:Sig:=.of [Sq2] [Dn,Df] (fun a=>Kz N a)
theorem YV:Dc 68 (RP N):=Di (Dh [(11,Xl N),(122,OY N),(123,OV N),(124,nO N),(125,NP N),(126,QB N),(127,aF N),(128,PR N),(129,Qm N)] bY) gY Tryz.f68 N (CZ ⟨lG N,RJ N,RF N,Abw N,MC N,XC N,vT N,Qq N,TU N,trivial⟩)
def dU:List (Nat×Nrm):=[(17,⟨[0,3,5],[([5],183,Tq4,1000000)],[],[(37888,1000000)],[]⟩),(29,⟨[0,3,5],[],[],[(39936,1004096),(42752,1004096)],[]⟩),(37,⟨[0,3,5],[],[],[(45312,1008192),(1004096,1008192)],[]⟩)]
def iW:Lk:=⟨[(17,⟨[(0,.c AL),(3,.c AO),(5,.c (xo 1000000))],[(0,.box [xb]),(33536,.box Bj),(1000000,.arr 183 false Tq4)]⟩),(29,⟨[(0,.c AL),(3,.c AO),(5,.c (xo 1004096))],[(0,.box [xb]),(33536,.box Bj),(1004096,.arr 183 false Tq4)]⟩),(37,⟨[(0,.c AL),(3,.c AO),(5,.c (xo 1008192))],[(0,.box [xb]),(33536,.box Bj),(1008192,.arr 183 false Tq4)]⟩)],[]⟩
def S9:Sig:=.of [.box [(false,.bool)],Sq2] [.cell false (.sl 183 Tq4)] (fun a=>IV N a.1 a.2)
theorem Zk:Dc 83 (S9 N):=Di (Dh [(81,EY N),(75,Hf N),(76,MQ N),(143,dX N),(144,Qu N),(78,FX N)] dU) iW Tryz.f83 N (CZ ⟨EN N,G8 N,NU N,yB N,Xy N,FP N,trivial⟩)
def qL:List (Nat×Nrm):=[(3,⟨[0,4,6,7],[],[],[],[]⟩),(66,⟨[0,4,6,7,57,58,59],[],[],[],[]⟩),(89,⟨[0,4,6,7],[],[],[],[]⟩)]
def y7:Lk:=⟨[(89,⟨[(0,.c AL),(4,.c AP),(6,.c AV),(7,.c AY)],[(0,.box [Bi]),(33792,.box BH),(33797,.DU 74 false Aq),(34304,.box BI),(34409,.DU 74 false Aq),(34560,.box Bq)]⟩)],[(66,⟨[(0,.c AL),(4,.c AP),(6,.c AV),(7,.c AY),(57,.i),(58,.i),(59,.c x64)],[(0,.box [Bi]),(33792,.box BH),(33797,.DU 74 false Aq),(34304,.box BI),(34409,.DU 74 false Aq),(34560,.box Bq)]⟩,[(0,⟨[(0,.c AL),(4,.c AP),(6,.c AV),(7,.c AY)],[(0,.box [Bi]),(33792,.box BH),(33797,.DU 74 false Aq),(34304,.box BI),(34409,.DU 74 false Aq),(34560,.box Bq)]⟩)])]⟩
def WV:Sig:=.of [Qb,Sq0] [Sq3,Df] (fun a=>Oa N a.1 a.2)
theorem iV:Dc 169 (WV N):=Di (Dh [(50,Uy N),(106,Yd N),(108,iZ N),(109,IE N),(170,Yq N),(239,Z7 N),(61,Gv N)] qL) y7 Tryz.f169 N (CZ ⟨WU N,Z4 N,mG N,I5 N,Z9 N,qQ N,Gp N,trivial⟩)
def dY:Sig:=.of [Ao1,Ahj] [Df] (fun a=>IW N a.1 a.2)
theorem yC:Dc 171 (dY N):=Di (Dh [(241,V4 N),(242,VZ N),(243,dR N),(244,Qs N)] []) ⟨[],[]⟩ Tryz.f171 N (CZ ⟨dQ N,Yc N,y8 N,Xx N,trivial⟩)
def Xd:Sig:=.of [Sq2] [Dn] (fun a=>Oh N a)
theorem kC:Dc 29 (Xd N):=Di (Dh [(68,RP N),(69,vM N)] []) ⟨[],[]⟩ Tryz.f29 N (CZ ⟨YV N,Adt N,trivial⟩)
def AkW:List (Nat×Nrm):=[(3,⟨[1,5,7],[([7],9,Au,1008192)],[],[(1004096,1008192)],[]⟩),(42,⟨[1,5,7,8,26,27,28],[([7],9,Au,1004096)],[],[(42496,1004096)],[]⟩),(65,⟨[1,5,6],[],[],[],[]⟩)]
def AmR:Lk:=⟨[(65,⟨[(1,.c AU),(5,.c (.c (.ptr 37376 0))),(6,.c xs)],[(33024,.box Bj),(37376,.box [xb])]⟩)],[(42,⟨[(1,.c AU),(5,.c (.c (.ptr 37376 0))),(7,.c (xo 1004096)),(8,.c AX),(26,.i),(27,.i),(28,.c x64)],[(33024,.box Bj),(34816,.box [Bc]),(37376,.box [xb]),(1004096,.arr 9 false Au)]⟩,[(0,⟨[(1,.c AU),(5,.c (.c (.ptr 37376 0))),(7,.c (xo 1008192))],[(33024,.box Bj),(37376,.box [xb]),(1008192,.arr 9 false Au)]⟩)])]⟩
def qI:Sig:=.of [Sq2] [Dn,Df] (fun a=>Ux N a)
theorem qJ:Dc 32 (qI N):=Di (Dh [(10,aO N),(74,dW N),(75,Hf N),(76,MQ N),(77,NW N),(79,UA N),(78,FX N),(80,Wh N),(83,S9 N),(82,Yr N),(81,EY N),(84,QS N)] AkW) AmR Tryz.f32 N (CZ ⟨dP N,yA N,G8 N,NU N,Qz N,WZ N,FP N,Yf N,Zk N,ZA N,EN N,NT N,trivial⟩)
def iU:List (Nat×Nrm):=[(3,⟨[8],[([8],35,Tq1,1004096)],[],[(1000000,1004096)],[]⟩),(30,⟨[3,6,8],[([8],35,Tq1,1000000)],[],[(44544,1000000)],[]⟩)]
def o5:Lk:=⟨[],[(30,⟨[(3,.c AO),(6,.c (.c (.ptr 36352 0))),(8,.c (xo 1000000))],[(33536,.box [Bc]),(36352,.box [Bi]),(1000000,.arr 35 false Tq1)]⟩,[(0,⟨[(8,.c (xo 1004096))],[(1004096,.arr 35 false Tq1)]⟩)])]⟩
def Ul:Sig:=.of [Dn,Sq0] [.cell false (.sl 35 Tq1),Df] (fun a=>LG N a.1 a.2)
theorem aP:Dc 110 (Ul N):=Di (Dh [(167,Qe N),(169,WV N)] iU [(104,JH N),(168,Kt N)]) o5 Tryz.f110 N (CZ ⟨SG N,iV N,trivial⟩ ⟨MO N,Ro N,trivial⟩)
def Zj:List (Nat×Nrm):=[(3,⟨[7],[],[],[],[]⟩),(26,⟨[0,7,21,22,23],[],[],[],[]⟩)]
def aQ:Lk:=⟨[],[(26,⟨[(0,.c AL),(7,.c (xo 37632)),(21,.i),(22,.i),(23,.c x64)],[(0,.box Bj),(37632,.mp Au (.bool .nil))]⟩,[(0,⟨[(7,.c (xo 37632))],[(0,.box Bj),(37632,.mp Au (.bool .nil))]⟩)])]⟩
def Qv:Sig:=.of [Ao1,Dn] [Df] (fun a=>J6 N a.1 a.2)
theorem Xz:Dc 111 (Qv N):=Di (Dh [(170,Yq N),(171,dY N)] Zj) aQ Tryz.f111 N (CZ ⟨Z9 N,yC N,trivial⟩)
def zH:Sig:=.of [Sq2,Aa2] [Dn,Df] (fun a=>Vz N a.1 a.2)
theorem AdH:Dc 24 (zH N):=Di (Dh [(32,qI N),(55,Ug N),(33,AbO N)] []) ⟨[],[]⟩ Tryz.f24 N (CZ ⟨qJ N,Zr N,AfP N,trivial⟩)
def AaA:List (Nat×Nrm):=[(117,⟨[0,5,9],[],[],[],[]⟩)]
def AbR:Lk:=⟨[(117,⟨[(0,.c AL),(5,.c (.c (.ptr 36608 0))),(9,.c (.c (.ptr 35072 0)))],[(0,.box Bj),(35072,.box [x64,xs,xs]),(36608,.box [Bi])]⟩)],[]⟩
def Zy:Sig:=.of [Ao1,Dn] [Df] (fun a=>QF N a.1 a.2)
theorem qM:Dc 58 (Zy N):=Di (Dh [(106,Yd N),(59,Sv N),(57,Gw N),(107,U1 N),(108,iZ N),(109,IE N),(110,Ul N),(111,Qv N),(61,Gv N)] AaA [(104,JH N)]) AbR Tryz.f58 N (CZ ⟨Z4 N,V3 N,Gq N,WY N,mG N,I5 N,aP N,Xz N,Gp N,trivial⟩ ⟨MO N,trivial⟩)
def XZ:Sig:=.of [Dn] [Sq2,Df] (fun a=>KX N a)
theorem Zx:Dc 25 (XZ N):=Di (Dh [(57,Gw N),(58,Zy N),(59,Sv N),(60,Z5 N),(61,Gv N),(10,aO N),(32,qI N)] [] [(56,P7 N)]) ⟨[],[]⟩ Tryz.f25 N (CZ ⟨Gq N,qM N,V3 N,qP N,Gp N,dP N,qJ N,trivial⟩ ⟨SE N,trivial⟩)
def mO:Sig:=.of [] [DK] (fun _=>NM N)
theorem AaQ:Dc 9 (mO N):=Di (Dh [(23,Aab N),(8,JR N),(24,zH N),(25,XZ N),(17,iR N),(28,Ur N),(27,qK N),(20,qG N)] [] [(22,YY N)] [] [] [45,48,49,55,56,58,59,63,64,67] [(8,7,49,[50,51,52,53,54])]) ⟨[],[]⟩ Tryz.f9 N (CZ ⟨Ae0 N,Kw N,AdH N,Zx N,lZ N,dB N,AbP N,qH N,trivial⟩ ⟨Afa N,trivial⟩)
def oC:List (Nat×Nrm):=[(3,⟨[],[],[],[],[]⟩),(11,⟨[4,5,7],[],[],[],[]⟩),(30,⟨[4,5,7],[],[],[],[]⟩),(42,⟨[4,5,7,8],[],[],[],[]⟩)]
def sU:Lk:=⟨[],[(30,⟨[(4,.c AP),(5,.c AQ),(7,.c x64)],[(33792,.box Bj),(34048,.box Bj)]⟩,[(0,⟨[],[]⟩)]),(42,⟨[(4,.c AP),(5,.c AQ),(7,.i),(8,.c x64)],[(33792,.box Bj),(34048,.box Bj)]⟩,[(2,⟨[(4,.c AP),(5,.c AQ),(7,.i)],[(33792,.box Bj),(34048,.box Bj)]⟩)])]⟩
def sV:Sig:=.of [Ahk] [DK] (fun a=>IJ N a)
theorem fG:Dc 7 (sV N):=Di (Dh [(14,AcN N),(15,zZ N),(29,Xd N),(25,XZ N),(8,JR N),(17,iR N),(18,Qn N),(9,mO N)] oC) sU Tryz.f7 N (CZ ⟨Agg N,Aey N,kC N,Zx N,Kw N,lZ N,TW N,AaQ N,trivial⟩)
end
