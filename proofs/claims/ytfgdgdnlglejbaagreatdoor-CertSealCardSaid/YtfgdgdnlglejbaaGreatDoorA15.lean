import Derived.Test.YtfgdgdnlglejbaaGreatDoorA14
set_option linter.all false
namespace Go.Proofs.YtfgdgdnlglejbaaGreatDoor.Vm
noncomputable section
variable (N:Nat)
open Go.Proofs
def AmF:List (Nat×Nrm):=[(3,⟨[],[],[],[],[]⟩),(10,⟨[0,1,5],[],[],[],[]⟩)]
def Apn:Lk:=⟨[],[(10,⟨[(0,.i),(1,.i),(5,.c x64)],[]⟩,[(0,⟨[],[]⟩)])]⟩
def Agf:Sig:=.of [Dw,.cell false .fn] [Ea] (fun a=>Aei N a.1 a.2)
theorem Aju:Dq 361 (Agf N):=Du (Dt [] AmF [] [(12,AhW N)]) Apn Tryz.f361 N (Dp trivial trivial ⟨AnY N,trivial⟩)
def iP:Sig:=.of [Dw] [Ea] (fun a=>WN N a)
theorem lS:Dq 367 (iP N):=Du (Dt [(408,vC N),(409,Aaj N),(406,Ua N)] [] [] [] [] [13,17,18,21,22,25]) ⟨[],[]⟩ Tryz.f367 N (Dp ⟨Aee N,Afj N,Rt N,trivial⟩)
def Ac0:Sig:=.of [Dw] [Ea] (fun a=>Aaf N a)
theorem AgV:Dq 368 (Ac0 N):=Du (Dt [(406,Ua N)] []) ⟨[],[]⟩ Tryz.f368 N (Dp ⟨Rt N,trivial⟩)
def lT:Sig:=.of [Dw] [Ea] (fun a=>Z7 N a)
theorem AbQ:Dq 369 (lT N):=Du (Dt [(410,Vf N),(406,Ua N),(411,PX N)] []) ⟨[],[]⟩ Tryz.f369 N (Dp ⟨jP N,Rt N,TA N,trivial⟩)
def Ai5:List (Nat×Nrm):=[(3,⟨[2,4,5,6],[],[],[],[]⟩),(11,⟨[2,4,5,6,7],[],[],[],[]⟩),(22,⟨[2,4,5,6],[],[],[],[]⟩),(38,⟨[2,4,5,6,7],[],[],[],[]⟩)]
def Aki:Lk:=⟨[],[(22,⟨[(2,.c AL),(4,.i),(5,.i),(6,.c x64)],[(33280,.box BJ)]⟩,[(0,⟨[(2,.c AL),(4,.i),(5,.i),(6,.c x64)],[(33280,.box BJ)]⟩)]),(38,⟨[(2,.c AL),(4,.c x64),(5,.i),(6,.i),(7,.c x64)],[(33280,.box BJ)]⟩,[(2,⟨[(2,.c AL),(4,.c x64),(5,.i),(6,.i),(7,.c x64)],[(33280,.box BJ)]⟩)])]⟩
def yY:Sig:=.of [Dv] [Sq7,Dv] (fun a=>Ae9 N a)
theorem AeA:Dq 126 (yY N):=Du (Dt [(211,Xv N),(212,Xw N)] Ai5) Aki Tryz.f126 N (Dp ⟨Zr N,Zt N,trivial⟩)
def Wx:Sig:=.of [Dw] [Dv] (fun a=>fZ N a)
theorem VQ:Dq 215 (Wx N):=Du (Dt [(148,Qa N),(291,Abn N)] []) ⟨[],[]⟩ Tryz.f215 N (Dp ⟨MO N,Agk N,trivial⟩)
def Ady:List (Nat×Nrm):=[(49,⟨[1,6],[],[],[],[]⟩)]
def AeR:Lk:=⟨[(49,⟨[(1,.c AP),(6,.c (xo 36864))],[(33024,.box [xs,xb,xs]),(36864,.arr 9 false Aq)]⟩)],[]⟩
def dQ:Sig:=.of [An1] [Dw,Dv] (fun a=>tZ N a)
theorem zQ:Dq 129 (dQ N):=Du (Dt [(122,PK N),(123,Ho N),(216,QL N)] Ady) AeR Tryz.f129 N (Dp ⟨OL N,Gq N,Uw N,trivial⟩)
def Abj:Sig:=.of [Dv,Dw] [Ea] (fun a=>sU N a.1 a.2)
theorem Agd:Dq 278 (Abj N):=Du (Dt [(360,Agg N),(361,Agf N)] []) ⟨[],[]⟩ Tryz.f278 N (Dp ⟨Ajv N,Aju N,trivial⟩)
def dS:Sig:=.of [Dw] [Ea] (fun a=>X5 N a)
theorem Aag:Dq 366 (dS N):=Du (Dt [(367,iP N),(407,UQ N),(406,Ua N)] []) ⟨[],[]⟩ Tryz.f366 N (Dp ⟨lS N,dB N,Rt N,trivial⟩)
def Ag8:List (Nat×Nrm):=[(3,⟨[6,7],[],[],[],[]⟩),(37,⟨[4,6,7],[],[],[(38144,1000000),(39680,1000000)],[]⟩),(42,⟨[6,7,38,39,40],[],[],[(44544,1000000)],[]⟩)]
def Ai7:Lk:=⟨[(37,⟨[(4,.c AU),(6,.c x64),(7,.c (xo 1000000))],[(33792,.box BQ),(1000000,.arr 5 false Ar)]⟩)],[(42,⟨[(6,.i),(7,.c (xo 1000000)),(38,.c (xo 42496)),(39,.i),(40,.c x64)],[(42496,.arr 3 false Au),(1000000,.arr 5 false Ar)]⟩,[(0,⟨[(6,.i),(7,.c (xo 1000000))],[(1000000,.arr 5 false Ar)]⟩)])]⟩
def tX:Sig:=.of [Dv] [Dw,Dv] (fun a=>QR N a)
theorem Adu:Dq 57 (tX N):=Du (Dt [(126,yY N),(127,AeF N),(123,Ho N)] Ag8) Ai7 Tryz.f57 N (Dp ⟨AeA N,Ai9 N,Gq N,trivial⟩)
def Akq:List (Nat×Nrm):=[(3,⟨[],[],[],[],[]⟩),(30,⟨[3,15,16,17],[],[],[],[]⟩)]
def AlZ:Lk:=⟨[],[(30,⟨[(3,.c (xo 36352)),(15,.i),(16,.i),(17,.c x64)],[(36352,.mp Aq Au)]⟩,[(0,⟨[],[]⟩)])]⟩
def iK:Sig:=.of [.cell false (.sl 176 Tq4)] [Dv] (fun a=>zL N a)
theorem lL:Dq 128 (iK N):=Du (Dt [(213,Acu N),(214,LJ N),(215,Wx N)] Akq) AlZ Tryz.f128 N (Dp ⟨AgN N,JU N,VQ N,trivial⟩)
def Nk (N:Nat):Alt:=.of [.cell false .str,.cell false (.int .i64)] [Lp,.cell false (.int .i64)] [.cell false .ptr,.cell false (.int .i64)] (fun a=>V4 N a.1 a.2)
theorem Pz:Spec Tryz.prog 44 (Nk N).1/\Spec Tryz.prog 44 (Nk N).2.1:=MS (C:=ctx Tryz.prog [(73,GN N)] [] [(104,Md N)]) (L:=⟨[],[]⟩) (fn:=Tryz.f44) (N:=N) (Dp ⟨Ji N,trivial⟩ ⟨RY N,trivial⟩) (by kernel_rfl) (by kernel_rfl) (fun a=>by kernel_rfl)
def bY:List (Nat×Nrm):=[(3,⟨[6],[([6],143,Tq0,1004096)],[],[(1000000,1004096)],[]⟩),(42,⟨[6,26,27,28],[([6],143,Tq0,1000000)],[],[(43776,1000000)],[]⟩)]
def iJ:Lk:=⟨[],[(42,⟨[(6,.c (xo 1000000)),(26,.i),(27,.i),(28,.c x64)],[(1000000,.arr 143 false Tq0)]⟩,[(0,⟨[(6,.c (xo 1004096))],[(1004096,.arr 143 false Tq0)]⟩)])]⟩
def QS:Sig:=.of [G9] [.cell false (.sl 143 Tq0),Dv] (fun a=>FO N a)
theorem Y7:Dq 194 (QS N):=Du (Dt [(192,Hm N),(266,fV N),(267,Q4 N)] bY) iJ Tryz.f194 N (Dp ⟨Gp N,Abl N,Xy N,trivial⟩)
def iI:List (Nat×Nrm):=[(3,⟨[],[],[],[],[]⟩),(11,⟨[0,13,14,15],[],[],[],[]⟩),(26,⟨[0,13,14,15],[],[],[],[]⟩),(62,⟨[0,4,13,14,15,41,42,43],[],[],[],[]⟩)]
def lK:Lk:=⟨[],[(26,⟨[(0,.i),(13,.i),(14,.i),(15,.c x64)],[]⟩,[(0,⟨[],[]⟩)]),(62,⟨[(0,.i),(4,.c AU),(13,.i),(14,.i),(15,.i),(41,.i),(42,.i),(43,.c x64)],[(33792,.box [xs,x64,xs])]⟩,[(2,⟨[(0,.i),(13,.i),(14,.i),(15,.i)],[]⟩)])]⟩
def SN:Sig:=.of [.cell false (.sl 143 Tq0)] [Dv] (fun a=>Ky N a)
theorem Zw:Dq 201 (SN N):=Du (Dt [(214,LJ N),(278,Abj N)] iI) lK Tryz.f201 N (Dp ⟨JU N,Agd N,trivial⟩)
def WM:Sig:=.of [Dv,Dw,Ea] [Ea] (fun a=>Sj N a.1 a.2.1 a.2.2)
theorem lN:Dq 280 (WM N):=Du (Dt [(366,dS N),(367,iP N),(368,Ac0 N),(369,lT N),(370,Aah N),(371,lQ N)] [] [] [] [] [11,14,15,18,21,22,26,29,30,33,36,37,41,44,45,48,51,52]) ⟨[],[]⟩ Tryz.f280 N (Dp ⟨Aag N,lS N,AgV N,AbQ N,Aff N,AbP N,trivial⟩)
def AiC:List (Nat×Nrm):=[(3,⟨[5],[([5],9,Aq,1004096)],[],[(1000000,1004096)],[]⟩),(26,⟨[5,17,18,19],[([5],9,Aq,1000000)],[],[(41216,1000000)],[]⟩)]
def Aks:Lk:=⟨[],[(26,⟨[(5,.c (xo 1000000)),(17,.i),(18,.i),(19,.c x64)],[(1000000,.arr 9 false Aq)]⟩,[(0,⟨[(5,.c (xo 1004096))],[(1004096,.arr 9 false Aq)]⟩)])]⟩
def zN:Sig:=.of [.cell false (.sl 176 Tq4)] [Dw,Dv] (fun a=>AeO N a)
theorem AeP:Dq 59 (zN N):=Du (Dt [(128,iK N),(129,dQ N),(123,Ho N)] AiC) Aks Tryz.f59 N (Dp ⟨lL N,zQ N,Gq N,trivial⟩)
def AiB:List (Nat×Nrm):=[(3,⟨[7],[([7],176,Tq4,1004096)],[],[(1000000,1004096)],[]⟩),(46,⟨[7,33,34,35],[([7],176,Tq4,1000000)],[],[(45568,1000000)],[]⟩)]
def Akr:Lk:=⟨[],[(46,⟨[(7,.c (xo 1000000)),(33,.i),(34,.i),(35,.c x64)],[(1000000,.arr 176 false Tq4)]⟩,[(0,⟨[(7,.c (xo 1004096))],[(1004096,.arr 176 false Tq4)]⟩)])]⟩
def zM:Sig:=.of [Dw] [.cell false (.sl 176 Tq4),Dv] (fun a=>AeM N a)
theorem AeN:Dq 162 (zM N):=Du (Dt [(148,Qa N),(192,Hm N),(245,dP N),(128,iK N)] AiB) Akr Tryz.f162 N (Dp ⟨MO N,Gp N,zO N,lL N,trivial⟩)
def QH (N:Nat):Alt:=.of [.cell false .str,.cell false (.int .i64)] [Agn,.cell false (.int .i64)] [.cell false .ptr,.cell false (.int .i64)] (fun a=>OI N a.1 a.2)
theorem wW:Spec Tryz.prog 151 (QH N).1/\Spec Tryz.prog 151 (QH N).2.1:=MS (C:=ctx Tryz.prog [(240,JY N)] [] [] [] [23]) (L:=⟨[],[]⟩) (fn:=Tryz.f151) (N:=N) (Dp ⟨Ju N,trivial⟩) (by kernel_rfl) (by kernel_rfl) (fun a=>by kernel_rfl)
def Uk:Sig:=.of [Dw,Dv,Dv,Dw,Dw] [Dw] (fun a=>Rz N a.1 a.2.1 a.2.2.1 a.2.2.2.1 a.2.2.2.2)
theorem WV:Dq 178 (Uk N):=Du (Dt [(258,AcA N),(242,Wi N),(240,JY N)] []) ⟨[],[]⟩ Tryz.f178 N (Dp ⟨Ahj N,VE N,Ju N,trivial⟩)
def Am2:List (Nat×Nrm):=[(3,⟨[5],[],[],[],[]⟩),(10,⟨[0,1,2,4,5,13],[],[],[],[]⟩)]
def AoT:Lk:=⟨[],[(10,⟨[(0,.i),(1,.i),(2,.i),(4,.i),(5,.c xs),(13,.c x64)],[]⟩,[(0,⟨[(5,.c xs)],[]⟩)])]⟩
def YC:Sig:=.of [Dw,Dv,Dv,Dv,Dv,Dw] [Dw] (fun a=>VF N a.1 a.2.1 a.2.2.1 a.2.2.2.1 a.2.2.2.2.1 a.2.2.2.2.2)
theorem XB:Dq 256 (YC N):=Du (Dt [(349,qW N),(350,AdL N),(240,JY N)] Am2) AoT Tryz.f256 N (Dp ⟨jB N,AcF N,Ju N,trivial⟩)
def ZP:Sig:=.of [Dw,Dv,Sq6] [Dw] (fun a=>Us N a.1 a.2.1 a.2.2)
theorem eP:Dq 257 (ZP N):=Du (Dt [(349,qW N),(304,qX N),(240,JY N)] []) ⟨[],[]⟩ Tryz.f257 N (Dp ⟨jB N,uK N,Ju N,trivial⟩)
def ZQ:Sig:=.of [Dw,Dv,Dv] [Dw] (fun a=>Ut N a.1 a.2.1 a.2.2)
theorem eQ:Dq 303 (ZQ N):=Du (Dt [(349,qW N),(350,AdL N),(240,JY N)] []) ⟨[],[]⟩ Tryz.f303 N (Dp ⟨jB N,AcF N,Ju N,trivial⟩)
def Uj:Sig:=.of [G9,Dv,Dw] [Dw] (fun a=>KL N a.1 a.2.1 a.2.2)
theorem WU:Dq 177 (Uj N):=Du (Dt [(242,Wi N),(240,JY N)] []) ⟨[],[]⟩ Tryz.f177 N (Dp ⟨VE N,Ju N,trivial⟩)
def nH:List (Nat×Nrm):=[(53,⟨[2,5],[],[],[],[]⟩)]
def rM:Lk:=⟨[(53,⟨[(2,.c AL),(5,.c xb)],[(33280,.box [x64,xs,Bq])]⟩)],[]⟩
def JG:Sig:=.of [Sq2,Ea] [Dv] (fun a=>ES N a.1 a.2)
theorem KF:Dq 294 (JG N):=Du (Dt [(381,aH N),(382,aI N),(383,AaE N),(384,fO N),(385,uS N),(386,fJ N),(132,JC N)] nH [] [] [] [11,15,16,19,23,24,28,32,33,36,40,41,45,49,50,53,57,58]) rM Tryz.f294 N (Dp ⟨xE N,fK N,AfP N,AaI N,AdV N,AaD N,JH N,trivial⟩)
def AgG:List (Nat×Nrm):=[(3,⟨[],[],[],[],[]⟩),(18,⟨[11,12,13],[],[],[],[]⟩)]
def AiA:Lk:=⟨[],[(18,⟨[(11,.i),(12,.i),(13,.c x64)],[]⟩,[(0,⟨[],[]⟩)])]⟩
def KI:Sig:=.of [Sq1] [Dv] (fun a=>G8 N a)
theorem JX:Dq 114 (KI N):=Du (Dt [(201,SN N)] AgG) AiA Tryz.f114 N (Dp ⟨Zw N,trivial⟩)
def jL (N:Nat):Alt:=.of [.cell false .str,.cell false (.int .i64),.cell false (.int .i64)] [AcW,.cell false (.int .i64)] [.cell false .ptr,.cell false (.int .i64)] (fun a=>Abc N a.1 a.2.1 a.2.2)
theorem Ajq:Spec Tryz.prog 78 (jL N).1/\Spec Tryz.prog 78 (jL N).2.1:=MS (C:=ctx Tryz.prog [(152,JF N)] [] [(151,QH N)]) (L:=⟨[],[]⟩) (fn:=Tryz.f78) (N:=N) (Dp ⟨KE N,trivial⟩ ⟨wW N,trivial⟩) (by kernel_rfl) (by kernel_rfl) (fun a=>by kernel_rfl)
def AiS:List (Nat×Nrm):=[(3,⟨[0,2,9],[],[],[],[]⟩),(26,⟨[0,1,2,9,10],[([9],9,Aq,1000000)],[],[(40960,1000000)],[]⟩)]
def Alb:Lk:=⟨[],[(26,⟨[(0,.i),(1,.i),(2,.i),(9,.c (xo 1000000)),(10,.c x64)],[(1000000,.arr 9 false Aq)]⟩,[(0,⟨[(0,.i),(2,.i),(9,.c (xo 1000000))],[(1000000,.arr 9 false Aq)]⟩)])]⟩
def Aa1:Sig:=.of [Dw,Dw,Dv] [Dw,Dv] (fun a=>YB N a.1 a.2.1 a.2.2)
theorem Af7:Dq 259 (Aa1 N):=Du (Dt [(302,Ur N),(303,ZQ N),(256,YC N),(257,ZP N)] AiS) Alb Tryz.f259 N (Dp ⟨WY N,eQ N,XB N,eP N,trivial⟩)
def Am0:List (Nat×Nrm):=[(3,⟨[13],[],[],[],[]⟩),(38,⟨[0,1,2,11,13,14],[([13],9,Aq,1000000)],[],[(45056,1000000)],[]⟩)]
def AoR:Lk:=⟨[],[(38,⟨[(0,.i),(1,.i),(2,.i),(11,.i),(13,.c (xo 1000000)),(14,.c x64)],[(1000000,.arr 9 false Aq)]⟩,[(0,⟨[(13,.c (xo 1000000))],[(1000000,.arr 9 false Aq)]⟩)])]⟩
def Af8:Sig:=.of [Dw,Dw,Dv,Dw] [Dw,Dv] (fun a=>qV N a.1 a.2.1 a.2.2.1 a.2.2.2)
theorem AiU:Dq 241 (Af8 N):=Du (Dt [(302,Ur N),(255,ZN N),(303,ZQ N),(256,YC N),(304,qX N)] Am0) AoR Tryz.f241 N (Dp ⟨WY N,eH N,eQ N,XB N,uK N,trivial⟩)
def Ahp:List (Nat×Nrm):=[(3,⟨[0,1,13],[],[],[],[]⟩),(46,⟨[0,1,3,11,13,14],[([13],9,Aq,1000000)],[],[(46336,1000000)],[]⟩)]
def AiT:Lk:=⟨[],[(46,⟨[(0,.i),(1,.i),(3,.i),(11,.i),(13,.c (xo 1000000)),(14,.c x64)],[(1000000,.arr 9 false Aq)]⟩,[(0,⟨[(0,.i),(1,.i),(13,.c (xo 1000000))],[(1000000,.arr 9 false Aq)]⟩)])]⟩
def uJ:Sig:=.of [Dw,Dv,Dw,Dw] [Dw,Dv] (fun a=>Wj N a.1 a.2.1 a.2.2.1 a.2.2.2)
theorem AdK:Dq 176 (uJ N):=Du (Dt [(254,Uo N),(255,ZN N),(256,YC N),(257,ZP N)] Ahp) AiT Tryz.f176 N (Dp ⟨WX N,eH N,XB N,eP N,trivial⟩)
def xJ:List (Nat×Nrm):=[(3,⟨[],[],[],[],[]⟩),(18,⟨[9,10,11],[],[],[],[]⟩)]
def AaS:Lk:=⟨[],[(18,⟨[(9,.i),(10,.i),(11,.c x64)],[]⟩,[(0,⟨[],[]⟩)])]⟩
def PT:Sig:=.of [.cell false (.sl 84 Tq1)] [Dv] (fun a=>IZ N a)
theorem Tv:Dq 224 (PT N):=Du (Dt [(294,JG N)] xJ) AaS Tryz.f224 N (Dp ⟨KF N,trivial⟩)
def AbJ:Sig:=.of [FW] [Ea] (fun a=>TR N a)
theorem oQ:Dq 346 (AbJ N):=Du (Dt [] []) ⟨[],[]⟩ Tryz.f346 N (Dp trivial)
def Yf:Sig:=.of [G9] [Dw] (fun a=>dV N a)
theorem qH:Dq 167 (Yf N):=Du (Dt [] []) ⟨[],[]⟩ Tryz.f167 N (Dp trivial)
def Vk:Sig:=.of [] [AvU] (fun _=>Za N)
theorem XW:Dq 161 (Vk N):=Du (Dt [] []) ⟨[],[]⟩ Tryz.f161 N (Dp trivial)
def bQ:Sig:=.of [Sq6,Agp] [] (fun a=>LZ N a.1 a.2)
theorem Xt:Dq 395 (bQ N):=Du (Dt [] []) ⟨[],[]⟩ Tryz.f395 N (Dp trivial)
def bP:Sig:=.of [Sq6,Agp] [] (fun a=>LY N a.1 a.2)
theorem Xr:Dq 396 (bP N):=Du (Dt [] []) ⟨[],[]⟩ Tryz.f396 N (Dp trivial)
def RN:Sig:=.of [Dw] [Dv] (fun a=>Vl N a)
theorem UY:Dq 399 (RN N):=Du (Dt [] []) ⟨[],[]⟩ Tryz.f399 N (Dp trivial)
def SB:Sig:=.of [G9] [Dv] (fun a=>MM N a)
theorem Vd:Dq 133 (SB N):=Du (Dt [] [] [] [] [] [6,10,11,16,17,22]) ⟨[],[]⟩ Tryz.f133 N (Dp trivial)
def AaV:Sig:=.of [Dv] [Ea] (fun a=>Je N a)
theorem AfV:Dq 221 (AaV N):=Du (Dt [] []) ⟨[],[]⟩ Tryz.f221 N (Dp trivial)
def Ah8:List (Nat×Nrm):=[(3,⟨[3],[],[],[],[]⟩),(14,⟨[3,57,58,59],[],[],[],[]⟩)]
def Ajn:Lk:=⟨[],[(14,⟨[(3,.c x64),(57,.c (xo 47360)),(58,.i),(59,.c x64)],[(47360,.arr 4 false (.bool .nil))]⟩,[(0,⟨[(3,.c x64)],[]⟩)])]⟩
def uU:Sig:=.of [FW] [Dv] (fun a=>Ws N a)
theorem AdY:Dq 226 (uU N):=Du (Dt [] Ah8) Ajn Tryz.f226 N (Dp trivial)
def uX:Sig:=.of [] [Sq6] (fun _=>AcM N)
theorem Aea:Dq 296 (uX N):=Du (Dt [] []) ⟨[],[]⟩ Tryz.f296 N (Dp trivial)
def AfR:Sig:=.of [Dv] [Dw] (fun a=>AdX N a)
theorem Ajl:Dq 233 (AfR N):=Du (Dt [] []) ⟨[],[]⟩ Tryz.f233 N (Dp trivial)
def Adn:Sig:=.of [FW] [Ea] (fun a=>Vt N a)
theorem wG:Dq 322 (Adn N):=Du (Dt [] []) ⟨[],[]⟩ Tryz.f322 N (Dp trivial)
def Ado:Sig:=.of [FW] [Ea] (fun a=>Vu N a)
theorem wH:Dq 325 (Ado N):=Du (Dt [] []) ⟨[],[]⟩ Tryz.f325 N (Dp trivial)
def Adp:Sig:=.of [FW] [Ea] (fun a=>Vw N a)
theorem wI:Dq 328 (Adp N):=Du (Dt [] []) ⟨[],[]⟩ Tryz.f328 N (Dp trivial)
def Adq:Sig:=.of [FW] [Ea] (fun a=>Vx N a)
theorem wJ:Dq 331 (Adq N):=Du (Dt [] []) ⟨[],[]⟩ Tryz.f331 N (Dp trivial)
def Adr:Sig:=.of [FW] [Ea] (fun a=>Vy N a)
theorem wK:Dq 334 (Adr N):=Du (Dt [] []) ⟨[],[]⟩ Tryz.f334 N (Dp trivial)
def AbG:Sig:=.of [FW] [Ea] (fun a=>TN N a)
theorem oN:Dq 337 (AbG N):=Du (Dt [] []) ⟨[],[]⟩ Tryz.f337 N (Dp trivial)
def AbH:Sig:=.of [FW] [Ea] (fun a=>TP N a)
theorem oO:Dq 340 (AbH N):=Du (Dt [] []) ⟨[],[]⟩ Tryz.f340 N (Dp trivial)
def AbI:Sig:=.of [FW] [Ea] (fun a=>TQ N a)
theorem oP:Dq 343 (AbI N):=Du (Dt [] []) ⟨[],[]⟩ Tryz.f343 N (Dp trivial)
def zG (N n:Nat):Sig:=.of [FW] [.cell false .bool] (AgF N n)
theorem AeI:Qc Tryz.prog (zG N):=SL (Dx:=[FW]) (DL:=[.cell false .bool]) (l:=[(310,fun a=>Vp N a),(313,fun a=>Vq N a),(316,fun a=>Vr N a),(319,fun a=>Vs N a),(322,fun a=>Vt N a),(325,fun a=>Vu N a),(328,fun a=>Vw N a),(331,fun a=>Vx N a),(334,fun a=>Vy N a),(337,fun a=>TN N a),(340,fun a=>TP N a),(343,fun a=>TQ N a),(346,fun a=>TR N a)]) ⟨vZ N,wB N,wE N,wF N,wG N,wH N,wI N,wJ N,wK N,oN N,oO N,oP N,oQ N,trivial⟩
def Nh:Sig:=.of [Dw] [Dv,Dv] (fun a=>JQ N a)
theorem Oo:Dq 390 (Nh N):=Du (Dt [(193,Qr N)] []) ⟨[],[]⟩ Tryz.f390 N (Dp ⟨QK N,trivial⟩)
def Akg (N n:Nat):Sig:=.of [Sq6,Agp] [] (ApH N n)
theorem ApI:Qc Tryz.prog (Akg N):=SL (Dx:=[Sq6,Agp]) (DL:=[]) (l:=[(395,fun a=>LZ N a.1 a.2)]) ⟨Xt N,trivial⟩
def Akh (N n:Nat):Sig:=.of [Sq6,Agp] [] (ApJ N n)
theorem ApK:Qc Tryz.prog (Akh N):=SL (Dx:=[Sq6,Agp]) (DL:=[]) (l:=[(396,fun a=>LY N a.1 a.2)]) ⟨Xr N,trivial⟩
def Ah9:List (Nat×Nrm):=[(3,⟨[],[],[],[],[]⟩),(10,⟨[0,5,6,7],[],[],[],[]⟩)]
def Ajp:Lk:=⟨[],[(10,⟨[(0,.i),(5,.i),(6,.i),(7,.c x64)],[]⟩,[(0,⟨[],[]⟩)])]⟩
def uV:Sig:=.of [Dw] [Ea] (fun a=>AcL N a)
theorem AdZ:Dq 228 (uV N):=Du (Dt [(296,uX N)] Ah9) Ajp Tryz.f228 N (Dp ⟨Aea N,trivial⟩)
def AcN:Sig:=.of [G9] [Dw] (fun a=>AaU N a)
theorem AhA:Dq 139 (AcN N):=Du (Dt [(233,AfR N)] []) ⟨[],[]⟩ Tryz.f139 N (Dp ⟨Ajl N,trivial⟩)
def yQ:Sig:=.of [.box [(false,.bool)],FW] [Dw] (fun a=>RX N a.1 a.2)
theorem lF:Dq 314 (yQ N):=Du (Dt [(218,Ux N),(55,EZ N),(58,EO N)] []) ⟨[],[]⟩ Tryz.f314 N (Dp ⟨Xa N,EL N,EH N,trivial⟩)
def oM:Sig:=.of [.box [(false,.bool)],FW] [Dw] (fun a=>Px N a.1 a.2)
theorem bV:Dq 338 (oM N):=Du (Dt [(58,EO N)] []) ⟨[],[]⟩ Tryz.f338 N (Dp ⟨EH N,trivial⟩)
def tJ:Sig:=.of [Lp] [Dv,Dv] (fun a=>Acn N a)
theorem Adf:Dq 157 (tJ N):=Du (Dt [(45,FM N),(193,Qr N)] []) ⟨[],[]⟩ Tryz.f157 N (Dp ⟨Fz N,QK N,trivial⟩)
def lY:Sig:=.of [An2,G9] [Dv] (fun a=>O6 N a.1 a.2)
theorem ZE:Dq 306 (lY N):=Du (Dt [(113,Wn N),(165,MG N)] []) ⟨[],[]⟩ Tryz.f306 N (Dp ⟨VH N,LQ N,trivial⟩)
def OD:Sig:=.of [Lp] [Dw,Dv] (fun a=>Rq N a)
theorem Ph:Dq 393 (OD N):=Du (Dt [(45,FM N),(200,PI N)] []) ⟨[],[]⟩ Tryz.f393 N (Dp ⟨Fz N,OJ N,trivial⟩)
def YX:Sig:=.of [Lp] [Dw,Dv] (fun a=>jW N a)
theorem vK:Dq 84 (YX N):=Du (Dt [(45,FM N),(113,Wn N)] []) ⟨[],[]⟩ Tryz.f84 N (Dp ⟨Fz N,VH N,trivial⟩)
def AaT:List (Nat×Nrm):=[(3,⟨[],[],[],[],[]⟩),(11,⟨[0,12,13,14],[],[],[],[]⟩),(18,⟨[0,12,13,14],[],[],[],[]⟩),(38,⟨[0,5,6,7,12,13,14],[],[],[],[]⟩)]
def Acd:Lk:=⟨[],[(18,⟨[(0,.i),(12,.i),(13,.i),(14,.c x64)],[]⟩,[(0,⟨[],[]⟩)]),(38,⟨[(0,.i),(5,.i),(6,.i),(7,.c x64),(12,.i),(13,.i),(14,.i)],[]⟩,[(2,⟨[(0,.i),(12,.i),(13,.i),(14,.i)],[]⟩)])]⟩
def Yq:Sig:=.of [Sq6,Dv] [Dv] (fun a=>Ir N a.1 a.2)
theorem rY:Dq 222 (Yq N):=Du (Dt [(227,IW N)] AaT) Acd Tryz.f222 N (Dp ⟨IG N,trivial⟩)
def jI:List (Nat×Nrm):=[(3,⟨[],[],[],[],[]⟩),(11,⟨[0,9,10,11],[],[],[],[]⟩),(18,⟨[0,9,10,11],[],[],[],[]⟩),(38,⟨[0,3,4,5,9,10,11],[],[],[],[]⟩)]
def nN:Lk:=⟨[],[(18,⟨[(0,.i),(9,.i),(10,.i),(11,.c x64)],[]⟩,[(0,⟨[],[]⟩)]),(38,⟨[(0,.i),(3,.i),(4,.c AU),(5,.c x64),(9,.i),(10,.i),(11,.i)],[(33792,.box [xs,xs])]⟩,[(2,⟨[(0,.i),(9,.i),(10,.i),(11,.i)],[]⟩)])]⟩
def Tu:Sig:=.of [Arm] [Dv] (fun a=>IJ N a)
theorem aS:Dq 223 (Tu N):=Du (Dt [(227,IW N)] jI) nN Tryz.f223 N (Dp ⟨IG N,trivial⟩)
def Afx:Sig:=.of [TD] [G9] (fun a=>qK N a)
theorem AiJ:Dq 71 (Afx N):=Du (Dt [(35,EX N),(22,iW N)] []) ⟨[],[]⟩ Tryz.f71 N (Dp ⟨EK N,mF N,trivial⟩)
def Ac5:Sig:=.of [TD] [Sq2] (fun a=>Tf N a)
theorem Ahc:Dq 238 (Ac5 N):=Du (Dt [(35,EX N),(70,We N)] []) ⟨[],[]⟩ Tryz.f238 N (Dp ⟨EK N,VB N,trivial⟩)
def vO:List (Nat×Nrm):=[(3,⟨[],[],[],[],[]⟩),(11,⟨[0,13,14,15],[],[],[],[]⟩),(18,⟨[0,13,14,15],[],[],[],[]⟩),(38,⟨[0,6,13,14,15,25,26,27],[],[],[],[]⟩)]
def yH:Lk:=⟨[],[(18,⟨[(0,.i),(13,.i),(14,.i),(15,.c x64)],[]⟩,[(0,⟨[],[]⟩)]),(38,⟨[(0,.i),(6,.i),(13,.i),(14,.i),(15,.i),(25,.i),(26,.i),(27,.c x64)],[]⟩,[(2,⟨[(0,.i),(13,.i),(14,.i),(15,.i)],[]⟩)])]⟩
def WE:Sig:=.of [Sq6,Dv] [Dv] (fun a=>RJ N a.1 a.2)
theorem kD:Dq 248 (WE N):=Du (Dt [(214,LJ N)] vO) yH Tryz.f248 N (Dp ⟨JU N,trivial⟩)
def Zb:List (Nat×Nrm):=[(3,⟨[],[],[],[],[]⟩),(11,⟨[0,10,11,12],[],[],[],[]⟩),(18,⟨[0,10,11,12],[],[],[],[]⟩),(38,⟨[0,4,10,11,12,29,30,31],[],[],[],[]⟩)]
def bI:Lk:=⟨[],[(18,⟨[(0,.i),(10,.i),(11,.i),(12,.c x64)],[]⟩,[(0,⟨[],[]⟩)]),(38,⟨[(0,.i),(4,.c AU),(10,.i),(11,.i),(12,.i),(29,.i),(30,.i),(31,.c x64)],[(33792,.box [xs,xs])]⟩,[(2,⟨[(0,.i),(10,.i),(11,.i),(12,.i)],[]⟩)])]⟩
def Qz:Sig:=.of [Arm] [Dv] (fun a=>SH N a)
theorem Xq:Dq 249 (Qz N):=Du (Dt [(214,LJ N)] Zb) bI Tryz.f249 N (Dp ⟨JU N,trivial⟩)
def vV:List (Nat×Nrm):=[(17,⟨[0,3,5],[],[],[],[]⟩)]
def yN:Lk:=⟨[(17,⟨[(0,.c AO),(3,.c AV),(5,.c xs)],[(0,.box [xb]),(33536,.box Bv)]⟩)],[]⟩
def yO:Sig:=.of [.box [(false,.bool)],FW] [Dw] (fun a=>RU N a.1 a.2)
theorem kU:Dq 311 (yO N):=Du (Dt [(53,Np N),(219,XZ N),(52,F9 N)] vV) yN Tryz.f311 N (Dp ⟨Oz N,oZ N,Fg N,trivial⟩)
def OE:Sig:=.of [.box [(false,.bool)],Dw] [Dw] (fun a=>NP N a.1 a.2)
theorem Pq:Dq 391 (OE N):=Du (Dt [(122,PK N),(55,EZ N),(58,EO N)] []) ⟨[],[]⟩ Tryz.f391 N (Dp ⟨OL N,EL N,EH N,trivial⟩)
def oL:List (Nat×Nrm):=[(3,⟨[0,5],[],[],[],[]⟩),(14,⟨[0,5,13,14,15],[],[],[],[]⟩)]
def vW:Lk:=⟨[],[(14,⟨[(0,.c AO),(5,.c (xo 34816)),(13,.c (xo 36096)),(14,.i),(15,.c x64)],[(0,.box [xb]),(34816,.arr 9 false Aq),(36096,.arr 3 false Au)]⟩,[(0,⟨[(0,.c AO),(5,.c (xo 34816))],[(0,.box [xb]),(34816,.arr 9 false Aq)]⟩)])]⟩
def vX:Sig:=.of [.box [(false,.bool)],FW] [Dw] (fun a=>QD N a.1 a.2)
theorem iC:Dq 326 (vX N):=Du (Dt [(119,QM N),(58,EO N),(52,F9 N)] oL) vW Tryz.f326 N (Dp ⟨Uy N,EH N,Fg N,trivial⟩)
def Q8:Sig:=.of [.cell false (.sl 176 Tq4)] [Dv] (fun a=>J4 N a)
theorem XK:Dq 262 (Q8 N):=Du (Dt [(351,Yp N)] []) ⟨[],[]⟩ Tryz.f262 N (Dp ⟨rX N,trivial⟩)
def Ahg:List (Nat×Nrm):=[(3,⟨[3],[([3],153,Tq2,1008192)],[],[(1000000,1008192)],[]⟩),(14,⟨[0,3,4],[([3],153,Tq2,1000000)],[],[(41216,1000000)],[]⟩),(33,⟨[0,3,4,5],[([3],153,Tq2,1004096)],[(some 34048,3,Az)],[(1000000,1004096)],[]⟩)]
def AiK:Lk:=⟨[(33,⟨[(0,.c AO),(3,.c (xo 1004096)),(4,.i),(5,.c AX)],[(0,.box BG),(34048,.box [(xo 36608),x64,xb,Bq]),(36608,.arr 84 false Tq1),(1004096,.arr 153 false Tq2)]⟩)],[(14,⟨[(0,.c AO),(3,.c (xo 1000000)),(4,.c x64)],[(0,.box BG),(1000000,.arr 153 false Tq2)]⟩,[(0,⟨[(3,.c (xo 1008192))],[(0,.box BG),(1008192,.arr 153 false Tq2)]⟩)])]⟩
def uF:Sig:=.of [TD] [.cell false (.sl 153 Tq2)] (fun a=>QT N a)
theorem AdB:Dq 38 (uF N):=Du (Dt [(35,EX N),(37,VA N),(29,Sr N)] Ahg) AiK Tryz.f38 N (Dp ⟨EK N,Yg N,Va N,trivial⟩)
def Ad9:List (Nat×Nrm):=[(3,⟨[0,2,3],[],[],[(33637,1004096),(1000000,1004096)],[]⟩),(11,⟨[0,2,3],[],[],[(33638,1012288),(1008192,1012288)],[]⟩),(14,⟨[0,2,3,4],[],[],[(33637,1000000),(37376,1000000)],[]⟩),(30,⟨[0,2,3,5],[],[],[(33638,1008192),(40704,1008192)],[]⟩)]
def Afy:Lk:=⟨[],[(14,⟨[(0,.c AO),(2,.c AL),(3,.c AV),(4,.c x64)],[(0,.box BG),(33280,.box BM),(33281,.Ed 84 false Tq1),(33282,.Ed 84 false Tq1),(33536,.box [(xo 1000000),(xo 33638)]),(33638,.Ed 84 false Tq1),(1000000,.arr 84 false Tq1)]⟩,[(0,⟨[(0,.c AO),(2,.c AL),(3,.c AV)],[(0,.box BG),(33280,.box BM),(33281,.Ed 84 false Tq1),(33282,.Ed 84 false Tq1),(33536,.box [(xo 1004096),(xo 33638)]),(33638,.Ed 84 false Tq1),(1004096,.arr 84 false Tq1)]⟩)]),(30,⟨[(0,.c AO),(2,.c AL),(3,.c AV),(5,.c x64)],[(0,.box BG),(33280,.box BM),(33281,.Ed 84 false Tq1),(33282,.Ed 84 false Tq1),(33536,.box [(xo 1004096),(xo 1008192)]),(1004096,.arr 84 false Tq1),(1008192,.arr 84 false Tq1)]⟩,[(2,⟨[(0,.c AO),(2,.c AL),(3,.c AV)],[(0,.box BG),(33280,.box BM),(33281,.Ed 84 false Tq1),(33282,.Ed 84 false Tq1),(33536,.box [(xo 1004096),(xo 1012288)]),(1004096,.arr 84 false Tq1),(1012288,.arr 84 false Tq1)]⟩)])]⟩
def dY:Sig:=.of [TD] [Ago] (fun a=>Rw N a)
theorem Aar:Dq 147 (dY N):=Du (Dt [(35,EX N),(238,Ac5 N)] Ad9) Afy Tryz.f147 N (Dp ⟨EK N,Ahc N,trivial⟩)
def bK:List (Nat×Nrm):=[(3,⟨[],[],[],[],[]⟩),(10,⟨[0,10,11,12],[],[],[],[]⟩),(11,⟨[0,4,10,11,12],[],[],[],[]⟩),(42,⟨[0,4,10,11,12,30,31,32],[],[],[],[]⟩)]
def gQ:Lk:=⟨[],[(10,⟨[(0,.i),(10,.i),(11,.i),(12,.c x64)],[]⟩,[(0,⟨[],[]⟩)]),(42,⟨[(0,.i),(4,.c AU),(10,.i),(11,.i),(12,.i),(30,.i),(31,.i),(32,.c x64)],[(33792,.box [xs,xb,xs])]⟩,[(2,⟨[(0,.i),(4,.c AU),(10,.i),(11,.i),(12,.i)],[(33792,.box [xs,xb,xs])]⟩)])]⟩
def QQ:Sig:=.of [.cell false (.sl 176 Tq4)] [Dv] (fun a=>TL N a)
theorem Y4:Dq 253 (QQ N):=Du (Dt [(214,LJ N),(308,Vo N),(215,Wx N)] bK) gQ Tryz.f253 N (Dp ⟨JU N,XX N,VQ N,trivial⟩)
def ZC:Sig:=.of [G9] [Dw,Dv] (fun a=>lX N a)
theorem wR:Dq 87 (ZC N):=Du (Dt [(165,MG N),(167,Yf N),(76,VJ N),(123,Ho N),(54,Kz N)] []) ⟨[],[]⟩ Tryz.f87 N (Dp ⟨LQ N,qH N,Yj N,Gq N,LC N,trivial⟩)
def iG:List (Nat×Nrm):=[(3,⟨[0,5],[([5],9,Aq,1004096)],[],[(1000000,1004096)],[]⟩),(14,⟨[0,5,9,10,11],[([5],9,Aq,1000000)],[],[(37888,1000000)],[]⟩)]
def lC:Lk:=⟨[],[(14,⟨[(0,.c AO),(5,.c (xo 1000000)),(9,.i),(10,.i),(11,.c x64)],[(0,.box [xb]),(1000000,.arr 9 false Aq)]⟩,[(0,⟨[(0,.c AO),(5,.c (xo 1004096))],[(0,.box [xb]),(1004096,.arr 9 false Aq)]⟩)])]⟩
def lD:Sig:=.of [.box [(false,.bool)],FW] [Dw] (fun a=>Ov N a.1 a.2)
theorem Zp:Dq 317 (lD N):=Du (Dt [(391,OE N),(52,F9 N)] iG) lC Tryz.f317 N (Dp ⟨Pq N,Fg N,trivial⟩)
def iF:List (Nat×Nrm):=[(3,⟨[0,5],[([5],9,Aq,1004096)],[],[(1000000,1004096)],[]⟩),(14,⟨[0,5,9,10,11],[([5],9,Aq,1000000)],[],[(38656,1000000)],[]⟩)]
def kZ:Lk:=⟨[],[(14,⟨[(0,.c AO),(5,.c (xo 1000000)),(9,.i),(10,.i),(11,.c x64)],[(0,.box [xb]),(1000000,.arr 9 false Aq)]⟩,[(0,⟨[(0,.c AO),(5,.c (xo 1004096))],[(0,.box [xb]),(1004096,.arr 9 false Aq)]⟩)])]⟩
def l7:Sig:=.of [.box [(false,.bool)],FW] [Dw] (fun a=>Ou N a.1 a.2)
theorem Zo:Dq 320 (l7 N):=Du (Dt [(391,OE N),(52,F9 N)] iF) kZ Tryz.f320 N (Dp ⟨Pq N,Fg N,trivial⟩)
def iD:List (Nat×Nrm):=[(3,⟨[0,5],[([5],9,Aq,1004096)],[],[(1000000,1004096)],[]⟩),(14,⟨[0,5,9,10,11],[([5],9,Aq,1000000)],[],[(39936,1000000)],[]⟩)]
def kW:Lk:=⟨[],[(14,⟨[(0,.c AO),(5,.c (xo 1000000)),(9,.i),(10,.i),(11,.c x64)],[(0,.box [xb]),(1000000,.arr 9 false Aq)]⟩,[(0,⟨[(0,.c AO),(5,.c (xo 1004096))],[(0,.box [xb]),(1004096,.arr 9 false Aq)]⟩)])]⟩
def kX:Sig:=.of [.box [(false,.bool)],FW] [Dw] (fun a=>Ot N a.1 a.2)
theorem Zn:Dq 323 (kX N):=Du (Dt [(391,OE N),(52,F9 N)] iD) kW Tryz.f323 N (Dp ⟨Pq N,Fg N,trivial⟩)
def RI:Sig:=.of [Lp] [Dv] (fun a=>Vj N a)
theorem UX:Dq 83 (RI N):=Du (Dt [(105,Nl N),(112,Kq N)] []) ⟨[],[]⟩ Tryz.f83 N (Dp ⟨Ox N,MQ N,trivial⟩)
def dM:Sig:=.of [Lp] [Dv] (fun a=>tN N a)
theorem yG:Dq 156 (dM N):=Du (Dt [(45,FM N),(73,GN N),(193,Qr N)] []) ⟨[],[]⟩ Tryz.f156 N (Dp ⟨Fz N,Ji N,QK N,trivial⟩)
def X7:Sig:=.of [An2,G9] [Dv] (fun a=>Kr N a.1 a.2)
theorem UW:Dq 305 (X7 N):=Du (Dt [(112,Kq N)] []) ⟨[],[]⟩ Tryz.f305 N (Dp ⟨MQ N,trivial⟩)
def yK:Sig:=.of [Dw,Q9] [Dv] (fun a=>RS N a.1 a.2)
theorem kR:Dq 315 (yK N):=Du (Dt [(73,GN N),(357,ZV N)] []) ⟨[],[]⟩ Tryz.f315 N (Dp ⟨Ji N,eX N,trivial⟩)
def oH:Sig:=.of [Dw,Q9] [Dv] (fun a=>Pj N a.1 a.2)
theorem bM:Dq 330 (oH N):=Du (Dt [(73,GN N),(390,Nh N)] []) ⟨[],[]⟩ Tryz.f330 N (Dp ⟨Ji N,Oo N,trivial⟩)
def oJ:Sig:=.of [Dw,Q9] [Dv] (fun a=>Pm N a.1 a.2)
theorem bT:Dq 339 (oJ N):=Du (Dt [(73,GN N),(399,RN N)] []) ⟨[],[]⟩ Tryz.f339 N (Dp ⟨Ji N,UY N,trivial⟩)
def Yo:Sig:=.of [G9] [Dw,Dv] (fun a=>OO N a)
theorem rU:Dq 65 (Yo N):=Du (Dt [(133,SB N),(69,LU N),(139,AcN N),(43,Fp N)] []) ⟨[],[]⟩ Tryz.f65 N (Dp ⟨Vd N,NJ N,AhA N,EM N,trivial⟩)
def YF:List (Nat×Nrm):=[(3,⟨[5],[],[],[],[]⟩),(26,⟨[5,17,18,19],[],[],[],[]⟩),(45,⟨[5,7,8,17,18,19],[],[],[],[]⟩)]
def aP:Lk:=⟨[(45,⟨[(5,.i),(7,.c (.c (.ptr 34560 0))),(8,.c xs),(17,.i),(18,.i),(19,.i)],[(34560,.box [xs,xb,xs])]⟩)],[(26,⟨[(5,.c xs),(17,.i),(18,.i),(19,.c x64)],[]⟩,[(0,⟨[(5,.c xs)],[]⟩)])]⟩
def PS:Sig:=.of [.cell false (.sl 176 Tq4)] [Dw,Dv] (fun a=>Jc N a)
theorem Xg:Dq 186 (PS N):=Du (Dt [(262,Q8 N),(263,PN N),(43,Fp N),(67,JL N),(142,Ri N)] YF) aP Tryz.f186 N (Dp ⟨XK N,Tn N,EM N,IY N,Qu N,trivial⟩)
def AkH:List (Nat×Nrm):=[(3,⟨[2,3],[],[],[],[]⟩),(14,⟨[0,2,3,4],[],[],[],[]⟩),(41,⟨[0,2,3,4,13,27],[],[],[],[]⟩)]
def Ams:Lk:=⟨[(41,⟨[(0,.c AO),(2,.c AL),(3,.c AV),(4,.i),(13,.i),(27,.c xb)],[(0,.box BG),(33280,.box Bz),(33285,.Ed 9 false Aq),(33286,.Ed 9 false Aq),(33287,.Ed 267 false (.str Aq)),(33291,.Ed 84 false Tq1),(33293,.Ed 84 false Tq1),(33294,.Ed 84 false Tq1),(33297,.Ed 153 false Tq2),(33298,.Ed 153 false Tq2),(33299,.Ed 176 false Tq4),(33536,.box Bv)]⟩)],[(14,⟨[(0,.c AO),(2,.c AL),(3,.c AV),(4,.c x64)],[(0,.box BG),(33280,.box Bz),(33285,.Ed 9 false Aq),(33286,.Ed 9 false Aq),(33287,.Ed 267 false (.str Aq)),(33291,.Ed 84 false Tq1),(33293,.Ed 84 false Tq1),(33294,.Ed 84 false Tq1),(33297,.Ed 153 false Tq2),(33298,.Ed 153 false Tq2),(33299,.Ed 176 false Tq4),(33536,.box Bv)]⟩,[(0,⟨[(2,.c AL),(3,.c AV)],[(0,.box BG),(33280,.box Bz),(33285,.Ed 9 false Aq),(33286,.Ed 9 false Aq),(33287,.Ed 267 false (.str Aq)),(33291,.Ed 84 false Tq1),(33293,.Ed 84 false Tq1),(33294,.Ed 84 false Tq1),(33297,.Ed 153 false Tq2),(33298,.Ed 153 false Tq2),(33299,.Ed 176 false Tq4),(33536,.box Bv)]⟩)])]⟩
def Ac6:Sig:=.of [TD] [FW] (fun a=>dX N a)
theorem Ahd:Dq 72 (Ac6 N):=Du (Dt [(144,AaO N),(35,EX N),(145,Ac8 N),(146,dZ N),(37,VA N),(147,dY N),(38,uF N)] AkH) Ams Tryz.f72 N (Dp ⟨AfT N,EK N,Ahf N,Aas N,Yg N,Aar N,AdB N,trivial⟩)
def Acp:Sig:=.of [Lp] [Dv,Dv] (fun a=>yE N a)
theorem Ag1:Dq 243 (Acp N):=Du (Dt [(105,Nl N),(195,tV N)] []) ⟨[],[]⟩ Tryz.f243 N (Dp ⟨Ox N,Adt N,trivial⟩)
def AhT (N n:Nat):Sig:=.of [An2,G9] [.cell false (.int .i64)] (AmW N n)
theorem AnU:Qc Tryz.prog (AhT N):=SL (Dx:=[An2,G9]) (DL:=[.cell false (.int .i64)]) (l:=[(305,fun a=>Kr N a.1 a.2),(306,fun a=>O6 N a.1 a.2)]) ⟨UW N,ZE N,trivial⟩
def yI:Sig:=.of [Dw,Q9] [Dv] (fun a=>RP N a.1 a.2)
theorem kJ:Dq 312 (yI N):=Du (Dt [(356,XY N),(109,IL N),(390,Nh N),(49,FK N)] [] [(44,Nk N)]) ⟨[],[]⟩ Tryz.f312 N (Dp ⟨oW N,IB N,Oo N,Fv N,trivial⟩ ⟨Pz N,trivial⟩)
def JP (N:Nat):Alt:=.of [.cell false .str] [Lp,.cell false (.int .i64)] [.cell false .ptr,.cell false (.int .i64)] (fun a=>Pn N a)
theorem Nc:Spec Tryz.prog 392 (JP N).1/\Spec Tryz.prog 392 (JP N).2.1:=MS (C:=ctx Tryz.prog [(196,Iw N)] [] [(44,Nk N)]) (L:=⟨[],[]⟩) (fn:=Tryz.f392) (N:=N) (Dp ⟨Ik N,trivial⟩ ⟨Pz N,trivial⟩) (by kernel_rfl) (by kernel_rfl) (fun a=>by kernel_rfl)
def gV:Sig:=.of [Dw,Q9] [Dv] (fun a=>Nb N a.1 a.2)
theorem Y5:Dq 342 (gV N):=Du (Dt [(45,FM N),(399,RN N),(49,FK N)] [] [(44,Nk N)]) ⟨[],[]⟩ Tryz.f342 N (Dp ⟨Fz N,UY N,Fv N,trivial⟩ ⟨Pz N,trivial⟩)
def vU:List (Nat×Nrm):=[(3,⟨[],[],[],[(517,1012336),(518,1012320),(519,1012304),(531,1012288),(1000000,1012288),(1000016,1012304),(1000032,1012320),(1000048,1012336)],[]⟩),(11,⟨[1,2,7,9,11],[([11],9,Aq,1008192)],[],[(517,1008256),(518,1008240),(519,1008224),(531,1008208),(1004096,1008192),(1004112,1008208),(1004128,1008224),(1004144,1008240),(1004160,1008256)],[]⟩),(18,⟨[1,2,7],[],[],[(517,1000048),(518,1000032),(519,1000016),(531,1000000),(617,1000048),(618,1000032),(619,1000016),(631,1000000)],[]⟩),(38,⟨[1,2,7,9,11],[([11],9,Aq,1004096)],[],[(517,1004160),(518,1004144),(519,1004128),(531,1004112),(45312,1004096),(1000000,1004112),(1000016,1004128),(1000032,1004144),(1000048,1004160)],[]⟩)]
def yM:Lk:=⟨[],[(18,⟨[(1,.i),(2,.c (.c (.clo 397 512))),(7,.c AY)],[(512,.box BB),(37120,.box [Bl]),(1000000,.arr 176 true Tq4),(1000016,.arr 267 true (.str Aq)),(1000032,.arr 9 true Aq),(1000048,.arr 9 true Aq)]⟩,[(0,⟨[],[(512,.box BC),(1012288,.arr 176 true Tq4),(1012304,.arr 267 true (.str Aq)),(1012320,.arr 9 true Aq),(1012336,.arr 9 true Aq)]⟩)]),(38,⟨[(1,.i),(2,.c (.c (.clo 397 512))),(7,.c AY),(9,.c Bd),(11,.c (xo 1004096))],[(512,.box BD),(37120,.box [Bl]),(39936,.box [Bl]),(1004096,.arr 9 false Aq),(1004112,.arr 176 true Tq4),(1004128,.arr 267 true (.str Aq)),(1004144,.arr 9 true Aq),(1004160,.arr 9 true Aq)]⟩,[(2,⟨[(1,.i),(2,.c (.c (.clo 397 512))),(7,.c AY),(9,.c Bd),(11,.c (xo 1008192))],[(512,.box BF),(37120,.box [Bl]),(39936,.box [Bl]),(1008192,.arr 9 false Aq),(1008208,.arr 176 true Tq4),(1008224,.arr 267 true (.str Aq)),(1008240,.arr 9 true Aq),(1008256,.arr 9 true Aq)]⟩)])]⟩
def WI:Sig:=.of [Dw,Dv,AvW] [Dv] (fun a=>Zk N a.1 a.2.1 a.2.2)
theorem kT:Spec Tryz.prog 394 (WI N):=Jf (C:=ctx Tryz.prog [(196,Iw N),(393,OD N),(49,FK N)] vU [(392,JP N),(197,GV N)] [(55,Akh N)]) (L:=yM) (fn:=Tryz.f394) (N:=N+1) (Dp ⟨Ik N,Ph N,Fv N,trivial⟩ ⟨Nc N,Jt N,trivial⟩ ⟨ApK N,trivial⟩)
def oI:List (Nat×Nrm):=[(22,⟨[5,25,26,27],[],[],[],[]⟩)]
def vP:Sig:=.of [Dw,Q9] [Dv] (fun a=>QB N a.1 a.2)
theorem gW:Spec Tryz.prog 327 (vP N):=Jf (C:=ctx Tryz.prog [(109,IL N),(390,Nh N),(49,FK N)] oI [(392,JP N)]) (L:=⟨[],[]⟩) (fn:=Tryz.f327) (N:=N+9) (Dp ⟨IB N,Oo N,Fv N,trivial⟩ ⟨Nc N,trivial⟩)
def jG:List (Nat×Nrm):=[(3,⟨[],[],[],[],[]⟩),(26,⟨[31,32,33],[],[],[],[]⟩)]
def nI:Lk:=⟨[],[(26,⟨[(31,.c (xo 40704)),(32,.i),(33,.c x64)],[(40704,.arr 84 false Tq1)]⟩,[(0,⟨[],[]⟩)])]⟩
def MJ:Sig:=.of [Ago] [Dv] (fun a=>II N a)
theorem PO:Dq 225 (MJ N):=Du (Dt [(294,JG N)] jG) nI Tryz.f225 N (Dp ⟨KF N,trivial⟩)
def NS:Sig:=.of [Sq2,Ea] [Dv] (fun a=>Gv N a.1 a.2)
theorem Nr:Dq 202 (NS N):=Du (Dt [(279,AeY N),(114,KI N),(280,WM N)] []) ⟨[],[]⟩ Tryz.f202 N (Dp ⟨AiD N,JX N,lN N,trivial⟩)
def AeK:List (Nat×Nrm):=[(3,⟨[5],[([5],9,Aq,1012288)],[],[(1000000,1012288)],[]⟩),(11,⟨[5,8,21,22,23],[([8],9,Aq,1008192),([5],9,Aq,1008208)],[],[(1004096,1008192),(1004112,1008208)],[]⟩),(26,⟨[5,21,22,23],[([5],9,Aq,1000000)],[],[(47872,1000000)],[]⟩),(42,⟨[5,8,21,22,23,27,28,29],[([8],9,Aq,1004096),([5],9,Aq,1004112)],[],[(44032,1004096),(1000000,1004112)],[]⟩)]
def AgI:Lk:=⟨[],[(26,⟨[(5,.c (xo 1000000)),(21,.i),(22,.i),(23,.c x64)],[(1000000,.arr 9 false Aq)]⟩,[(0,⟨[(5,.c (xo 1012288))],[(1012288,.arr 9 false Aq)]⟩)]),(42,⟨[(5,.c (xo 1004112)),(8,.c (xo 1004096)),(21,.i),(22,.i),(23,.i),(27,.i),(28,.i),(29,.c x64)],[(1004096,.arr 9 false Aq),(1004112,.arr 9 false Aq)]⟩,[(2,⟨[(5,.c (xo 1008208)),(8,.c (xo 1008192)),(21,.i),(22,.i),(23,.i)],[(1008192,.arr 9 false Aq),(1008208,.arr 9 false Aq)]⟩)])]⟩
def V6:Sig:=.of [Sq1] [Dw,Dv] (fun a=>MB N a)
theorem Yb:Dq 56 (V6 N):=Du (Dt [(114,KI N),(124,Q5 N),(125,jQ N),(123,Ho N)] AeK) AgI Tryz.f56 N (Dp ⟨JX N,Xz N,AhG N,Gq N,trivial⟩)
def AeJ:List (Nat×Nrm):=[(3,⟨[2,4,8],[],[],[(34817,1004096),(1000000,1004096)],[]⟩),(50,⟨[2,4,8,37,38,39],[],[],[(34817,1000000),(47104,1000000)],[]⟩)]
def AgH:Lk:=⟨[],[(50,⟨[(2,.c AL),(4,.c AU),(8,.c AZ),(37,.i),(38,.i),(39,.c x64)],[(33280,.box BP),(33281,.Ed 144 false Az),(33792,.box [(xo 33793)]),(33793,.Ed 144 false Az),(34816,.box [(xo 1000000)]),(1000000,.arr 144 false Az)]⟩,[(0,⟨[(2,.c AL),(4,.c AU),(8,.c AZ)],[(33280,.box BP),(33281,.Ed 144 false Az),(33792,.box [(xo 33793)]),(33793,.Ed 144 false Az),(34816,.box [(xo 1004096)]),(1004096,.arr 144 false Az)]⟩)])]⟩
def V5:Sig:=.of [Dw] [Sq1,Dv] (fun a=>P5 N a)
theorem Ya:Dq 107 (V5 N):=Du (Dt [(148,Qa N),(192,Hm N),(194,QS N),(114,KI N)] AeJ) AgH Tryz.f107 N (Dp ⟨MO N,Gp N,Y7 N,JX N,trivial⟩)
def aU (N:Nat):Alt:=.of [.cell false .str,.cell false (.int .i64)] [AcW,.cell false (.int .i64)] [.cell false .ptr,.cell false (.int .i64)] (fun a=>UL N a.1 a.2)
theorem AhD:Spec Tryz.prog 21 (aU N).1/\Spec Tryz.prog 21 (aU N).2.1:=MS (C:=ctx Tryz.prog [] [] [(78,jL N)]) (L:=⟨[],[]⟩) (fn:=Tryz.f21) (N:=N) (Dp trivial ⟨Ajq N,trivial⟩) (by kernel_rfl) (by kernel_rfl) (fun a=>by kernel_rfl)
def wY:List (Nat×Nrm):=[(3,⟨[0,2],[([2],9,Aq,1004096)],[],[(1000000,1004096)],[]⟩),(11,⟨[],[],[],[(44032,1020480),(1008192,1020480)],[]⟩),(14,⟨[0,2,3],[([2],9,Aq,1000000)],[],[(43264,1000000)],[]⟩),(19,⟨[0,6,7],[([7],9,Aq,1016384)],[],[(44032,1016400),(1012288,1016384),(1012304,1016400)],[]⟩),(38,⟨[0,2,6],[],[],[(44032,1008192),(56576,1008192),(1016384,1004096)],[]⟩),(54,⟨[0,2,6,7,8],[([7],9,Aq,1012288)],[],[(44032,1012304),(54016,1012288),(1008192,1012304)],[]⟩)]
def Aaw:Lk:=⟨[],[(14,⟨[(0,.c AO),(2,.c (xo 1000000)),(3,.c x64)],[(0,.box BK),(1000000,.arr 9 false Aq)]⟩,[(0,⟨[(0,.c AO),(2,.c (xo 1004096))],[(0,.box BK),(1004096,.arr 9 false Aq)]⟩)]),(38,⟨[(0,.c AO),(2,.c (xo 1004096)),(6,.c x64)],[(0,.box [(xo 1008192),xs,xs,x64]),(1004096,.arr 9 true Aq),(1008192,.arr 39 false (.sl 9 Aq .nil))]⟩,[(2,⟨[],[(0,.box [(xo 1020480),xs,xs,x64]),(1020480,.arr 39 false (.sl 9 Aq .nil))]⟩)]),(54,⟨[(0,.c AO),(2,.c (xo 1004096)),(6,.i),(7,.c (xo 1012288)),(8,.c x64)],[(0,.box [(xo 1012304),xs,xs,x64]),(1004096,.arr 9 true Aq),(1012288,.arr 9 false Aq),(1012304,.arr 39 false (.sl 9 Aq .nil))]⟩,[(4,⟨[(0,.c AO),(6,.i),(7,.c (xo 1016384))],[(0,.box [(xo 1016400),xs,xs,x64]),(1016384,.arr 9 false Aq),(1016400,.arr 39 false (.sl 9 Aq .nil))]⟩)])]⟩
def WS:Sig:=.of [Agn] [] (fun a=>Hu N a)
theorem mO:Dq 180 (WS N):=Du (Dt [(259,Aa1 N),(178,Uk N)] wY) Aaw Tryz.f180 N (Dp ⟨Af7 N,WV N,trivial⟩)
def AdE:List (Nat×Nrm):=[(3,⟨[3,10],[],[],[],[]⟩),(58,⟨[3,10,12,13,14],[],[],[],[]⟩),(61,⟨[3,10,12,13,14],[],[],[],[]⟩)]
def Af1:Lk:=⟨[(61,⟨[(3,.c AV),(10,.c xs),(12,.i),(13,.i),(14,.i)],[(33536,.box BU)]⟩)],[(58,⟨[(3,.c AV),(10,.c xs),(12,.i),(13,.c x64),(14,.c x64)],[(33536,.box BU)]⟩,[(0,⟨[(3,.c AV),(10,.c xs)],[(33536,.box BU)]⟩)])]⟩
def eF:Sig:=.of [G9,Dw,Dw] [Dv] (fun a=>Ry N a.1 a.2.1 a.2.2)
theorem Aax:Dq 91 (eF N):=Du (Dt [(165,MG N),(175,uG N),(177,Uj N),(176,uJ N),(178,Uk N)] AdE) Af1 Tryz.f91 N (Dp ⟨LQ N,AdD N,WU N,AdK N,WV N,trivial⟩)
def MK:Sig:=.of [Sq2,Ea] [Dw,Dv] (fun a=>FD N a.1 a.2)
theorem PQ:Dq 298 (MK N):=Du (Dt [(294,JG N),(63,PR N),(43,Fp N)] []) ⟨[],[]⟩ Tryz.f298 N (Dp ⟨KF N,Tq N,EM N,trivial⟩)
def fU:Sig:=.of [Dv,.cell false (.sl 176 Tq4)] [Dw,Dv] (fun a=>XN N a.1 a.2)
theorem AaW:Dq 100 (fU N):=Du (Dt [(186,PS N),(67,JL N)] []) ⟨[],[]⟩ Tryz.f100 N (Dp ⟨Xg N,IY N,trivial⟩)
def AkG:List (Nat×Nrm):=[(17,⟨[2,3],[],[],[],[]⟩)]
def Amr:Lk:=⟨[(17,⟨[(2,.c AL),(3,.c AV)],[(0,.box BG),(33280,.box [AB,AB,AA,(xo 33284),(xo 33285),AA,AA,AA,AB,AB,AQ,AQ,AA,AA,(xo 33295),(xo 33296),(xo 33297),AA,AA,AA,(xo 33301),AQ,(xo 33303),(xo 33304),AB,AB,(xo 33307),(xo 33308),(xo 33309),AB]),(33284,.Ed 144 false Az),(33285,.Ed 144 false Az),(33295,.Ed 9 false Aq),(33296,.Ed 9 false Aq),(33297,.Ed 267 false (.str Aq)),(33301,.Ed 84 false Tq1),(33303,.Ed 84 false Tq1),(33304,.Ed 84 false Tq1),(33307,.Ed 153 false Tq2),(33308,.Ed 153 false Tq2),(33309,.Ed 176 false Tq4),(33536,.box [AB,AB,x64,Bq,Bq,x64,x64,x64,xs,xs,xb,xb,x64,x64,Bh,Bh,(xl (.str Aq)),x64,x64,x64,Be,xb,Be,Be,xs,xs,Bg,Bg,Bi,AB])]⟩)],[]⟩
def iV:Sig:=.of [TD] [AcX] (fun a=>KY N a)
theorem mD:Dq 18 (iV N):=Du (Dt [(35,EX N),(29,Sr N),(70,We N),(36,Ac7 N),(71,Afx N),(72,Ac6 N)] AkG) Amr Tryz.f18 N (Dp ⟨EK N,Va N,VB N,Ahe N,AiJ N,Ahd N,trivial⟩)
def dL:Sig:=.of [Lp] [Dv,Dv,Dv] (fun a=>tK N a)
theorem yF:Dq 159 (dL N):=Du (Dt [(243,Acp N),(49,FK N)] [] [(197,GV N)]) ⟨[],[]⟩ Tryz.f159 N (Dp ⟨Ag1 N,Fv N,trivial⟩ ⟨Jt N,trivial⟩)
def AbR:List (Nat×Nrm):=[(3,⟨[2,4,7,8],[],[],[],[]⟩),(50,⟨[2,4,7,8,35,36,37],[],[],[],[]⟩)]
def Ad4:Lk:=⟨[],[(50,⟨[(2,.c AL),(4,.c AU),(7,.c Bl),(8,.c AZ),(35,.c (xo 41728)),(36,.i),(37,.c x64)],[(33280,.box BH),(33792,.box BH),(34816,.box BU),(41728,.arr 333 false (.fn .nil))]⟩,[(0,⟨[(2,.c AL),(4,.c AU),(7,.c Bl),(8,.c AZ)],[(33280,.box BH),(33792,.box BH),(34816,.box BU)]⟩)])]⟩
def ZB:Sig:=.of [Dw] [G9,Dv] (fun a=>lW N a)
theorem wQ:Dq 244 (ZB N):=Du (Dt [(148,Qa N),(192,Hm N)] AbR [] [(45,AhT N)]) Ad4 Tryz.f244 N (Dp ⟨MO N,Gp N,trivial⟩ trivial ⟨AnU N,trivial⟩)
def gY:List (Nat×Nrm):=[(3,⟨[6],[],[],[(261,1004096),(1000000,1004096)],[]⟩),(10,⟨[1,5,6],[],[],[(261,1000000),(40960,1000000)],[]⟩)]
def kP:Lk:=⟨[],[(10,⟨[(1,.c (.c (.ptr 256 0))),(5,.c (.c (.ptr 35328 0))),(6,.c x64)],[(256,.box [xb,xb,x64,x64,(xo 1000000),(xo 262),(xo 263),x64,x64,x64,Be,xb,Be,Be,xs,xs,Bg,Bg,(xo 275)]),(262,.arr 9 true Aq),(263,.arr 267 true (.str Aq)),(275,.arr 176 true Tq4),(35328,.box [Bl]),(1000000,.arr 9 true Aq)]⟩,[(0,⟨[(6,.c x64)],[(256,.box [xb,xb,x64,x64,(xo 1004096),(xo 262),(xo 263),x64,x64,x64,Be,xb,Be,Be,xs,xs,Bg,Bg,(xo 275)]),(262,.arr 9 true Aq),(263,.arr 267 true (.str Aq)),(275,.arr 176 true Tq4),(1004096,.arr 9 true Aq)]⟩)])]⟩
def kQ:Sig:=.of [Dw,Q9] [Dv] (fun a=>Om N a.1 a.2)
theorem Zi:Spec Tryz.prog 318 (kQ N):=Jf (C:=ctx Tryz.prog [(196,Iw N),(393,OD N)] gY [(392,JP N)]) (L:=kP) (fn:=Tryz.f318) (N:=N+1) (Dp ⟨Ik N,Ph N,trivial⟩ ⟨Nc N,trivial⟩)
def vT:List (Nat×Nrm):=[(3,⟨[],[],[],[(517,1012336),(518,1012320),(519,1012304),(531,1012288),(1000000,1012288),(1000016,1012304),(1000032,1012320),(1000048,1012336)],[]⟩),(11,⟨[1,2,7,9,11],[([11],9,Aq,1008192)],[],[(517,1008256),(518,1008240),(519,1008224),(531,1008208),(1004096,1008192),(1004112,1008208),(1004128,1008224),(1004144,1008240),(1004160,1008256)],[]⟩),(18,⟨[1,2,7],[],[],[(517,1000048),(518,1000032),(519,1000016),(531,1000000),(617,1000048),(618,1000032),(619,1000016),(631,1000000)],[]⟩),(38,⟨[1,2,7,9,11],[([11],9,Aq,1004096)],[],[(517,1004160),(518,1004144),(519,1004128),(531,1004112),(45312,1004096),(1000000,1004112),(1000016,1004128),(1000032,1004144),(1000048,1004160)],[]⟩)]
def yL:Lk:=⟨[],[(18,⟨[(1,.i),(2,.c (.c (.clo 396 512))),(7,.c AY)],[(512,.box BB),(37120,.box [Bl]),(1000000,.arr 176 true Tq4),(1000016,.arr 267 true (.str Aq)),(1000032,.arr 9 true Aq),(1000048,.arr 9 true Aq)]⟩,[(0,⟨[],[(512,.box BC),(1012288,.arr 176 true Tq4),(1012304,.arr 267 true (.str Aq)),(1012320,.arr 9 true Aq),(1012336,.arr 9 true Aq)]⟩)]),(38,⟨[(1,.i),(2,.c (.c (.clo 396 512))),(7,.c AY),(9,.c Bd),(11,.c (xo 1004096))],[(512,.box BD),(37120,.box [Bl]),(39936,.box [Bl]),(1004096,.arr 9 false Aq),(1004112,.arr 176 true Tq4),(1004128,.arr 267 true (.str Aq)),(1004144,.arr 9 true Aq),(1004160,.arr 9 true Aq)]⟩,[(2,⟨[(1,.i),(2,.c (.c (.clo 396 512))),(7,.c AY),(9,.c Bd),(11,.c (xo 1008192))],[(512,.box BF),(37120,.box [Bl]),(39936,.box [Bl]),(1008192,.arr 9 false Aq),(1008208,.arr 176 true Tq4),(1008224,.arr 267 true (.str Aq)),(1008240,.arr 9 true Aq),(1008256,.arr 9 true Aq)]⟩)])]⟩
def WH:Sig:=.of [Dw,Dv,AvV] [Dv] (fun a=>Zj N a.1 a.2.1 a.2.2)
theorem kS:Spec Tryz.prog 394 (WH N):=Jf (C:=ctx Tryz.prog [(196,Iw N),(393,OD N),(49,FK N)] vT [(392,JP N),(197,GV N)] [(55,Akg N)]) (L:=yL) (fn:=Tryz.f394) (N:=N+1) (Dp ⟨Ik N,Ph N,Fv N,trivial⟩ ⟨Nc N,Jt N,trivial⟩ ⟨ApI N,trivial⟩)
def rQ:List (Nat×Nrm):=[(3,⟨[],[],[],[],[]⟩),(18,⟨[10,11,12],[],[],[],[]⟩)]
def xH:Lk:=⟨[],[(18,⟨[(10,.i),(11,.i),(12,.c x64)],[]⟩,[(0,⟨[],[]⟩)])]⟩
def O7:Sig:=.of [.cell false (.sl 153 Tq2)] [Dv] (fun a=>FV N a)
theorem Rj:Dq 183 (O7 N):=Du (Dt [(224,PT N),(132,JC N)] rQ [] [] [] [20,24,25,29,35,36]) xH Tryz.f183 N (Dp ⟨Tv N,JH N,trivial⟩)
def xB:List (Nat×Nrm):=[(3,⟨[4],[],[],[],[]⟩),(30,⟨[4,15,16,17],[],[],[],[]⟩)]
def AaG:Lk:=⟨[],[(30,⟨[(4,.c xs),(15,.i),(16,.i),(17,.c x64)],[]⟩,[(0,⟨[(4,.c xs)],[]⟩)])]⟩
def Ld:Sig:=.of [.cell false (.sl 84 Tq1)] [Dw,Dv] (fun a=>IX N a)
theorem ML:Dq 234 (Ld N):=Du (Dt [(298,MK N)] xB) AaG Tryz.f234 N (Dp ⟨PQ N,trivial⟩)
def Ae3:Sig:=.of [Lp] [G9,Dv] (fun a=>Ake N a)
theorem Ai4:Dq 160 (Ae3 N):=Du (Dt [(45,FM N),(244,ZB N)] []) ⟨[],[]⟩ Tryz.f160 N (Dp ⟨Fz N,wQ N,trivial⟩)
def kN:Sig:=.of [Dw,Q9] [Dv] (fun a=>Ol N a.1 a.2)
theorem Zh:Dq 321 (kN N):=Du (Dt [(394,WH N)] []) ⟨[],[]⟩ Tryz.f321 N (Dp ⟨kS N,trivial⟩)
def kL:Sig:=.of [Dw,Q9] [Dv] (fun a=>Oj N a.1 a.2)
theorem Zg:Dq 324 (kL N):=Du (Dt [(394,WI N)] []) ⟨[],[]⟩ Tryz.f324 N (Dp ⟨kT N,trivial⟩)
def Ajj:List (Nat×Nrm):=[(3,⟨[0,6],[],[],[],[]⟩),(22,⟨[0,6,14,15,16],[],[],[],[]⟩)]
def Als:Lk:=⟨[],[(22,⟨[(0,.i),(6,.c xs),(14,.i),(15,.i),(16,.c x64)],[]⟩,[(0,⟨[(0,.i),(6,.c xs)],[]⟩)])]⟩
def AaL:Sig:=.of [Dv,.cell false (.sl 84 Tq1)] [Dw,Dv] (fun a=>NI N a.1 a.2)
theorem AfQ:Dq 299 (AaL N):=Du (Dt [(298,MK N),(43,Fp N),(67,JL N)] Ajj) Als Tryz.f299 N (Dp ⟨PQ N,EM N,IY N,trivial⟩)
def Yt:Sig:=.of [.cell false (.sl 84 Tq1)] [Dw] (fun a=>Lj N a)
theorem sD:Dq 187 (Yt N):=Du (Dt [(234,Ld N),(43,Fp N)] []) ⟨[],[]⟩ Tryz.f187 N (Dp ⟨ML N,EM N,trivial⟩)
def Aeg:List (Nat×Nrm):=[(3,⟨[],[],[],[],[]⟩),(11,⟨[32,33,34],[],[],[],[]⟩),(26,⟨[32,33,34],[],[],[],[]⟩),(38,⟨[32,33,34,38,39,40],[],[],[],[]⟩)]
def Agb:Lk:=⟨[],[(26,⟨[(32,.c (xo 40960)),(33,.i),(34,.c x64)],[(40960,.arr 30 false (.sl 84 Tq1 .nil))]⟩,[(0,⟨[],[]⟩)]),(38,⟨[(32,.c (xo 40960)),(33,.i),(34,.i),(38,.i),(39,.i),(40,.c x64)],[(40960,.arr 30 false (.sl 84 Tq1 .nil))]⟩,[(2,⟨[(32,.c (xo 40960)),(33,.i),(34,.i)],[(40960,.arr 30 false (.sl 84 Tq1 .nil))]⟩)])]⟩
def OV:Sig:=.of [Ago] [Dv] (fun a=>J9 N a)
theorem PY:Dq 309 (OV N):=Du (Dt [(202,NS N)] Aeg) Agb Tryz.f309 N (Dp ⟨Nr N,trivial⟩)
def Acm:Sig:=.of [Lp] [Sq1,Dv] (fun a=>yD N a)
theorem Agz:Dq 158 (Acm N):=Du (Dt [(45,FM N),(107,V5 N)] []) ⟨[],[]⟩ Tryz.f158 N (Dp ⟨Fz N,Ya N,trivial⟩)
def tH:Sig:=.of [AcX,G9] [Dv] (fun a=>QP N a.1 a.2)
theorem Ade:Dq 27 (tH N):=Du (Dt [(91,eF N)] []) ⟨[],[]⟩ Tryz.f27 N (Dp ⟨Aax N,trivial⟩)
def AaM:List (Nat×Nrm):=[(3,⟨[],[],[],[],[]⟩),(93,⟨[1],[],[],[],[]⟩),(138,⟨[1,134,135,136],[],[],[],[]⟩)]
def Aca:Lk:=⟨[(93,⟨[(1,.c AP)],[(33024,.box Bv)]⟩)],[(138,⟨[(1,.c AP),(134,.i),(135,.i),(136,.c x64)],[(33024,.box Bv)]⟩,[(0,⟨[],[]⟩)])]⟩
def QN:Sig:=.of [FW] [Dv] (fun a=>Le N a)
theorem UD:Dq 134 (QN N):=Du (Dt [(221,AaV N),(222,Yq N),(223,Tu N),(224,PT N),(225,MJ N),(183,O7 N),(226,uU N),(227,IW N),(228,uV N),(229,aQ N),(230,XD N)] AaM [] [] [] [17,21,22,26,30,31,36,41,42,47,48,53,54,58,59,63]) Aca Tryz.f134 N (Dp ⟨AfV N,rY N,aS N,Tv N,PO N,Rj N,AdY N,IG N,AdZ N,fP N,ZZ N,trivial⟩)
def Rh:Sig:=.of [Ago] [Dw,Dv] (fun a=>JI N a)
theorem YD:Dq 235 (Rh N):=Du (Dt [(225,MJ N),(299,AaL N),(67,JL N)] []) ⟨[],[]⟩ Tryz.f235 N (Dp ⟨PO N,AfQ N,IY N,trivial⟩)
def kE:List (Nat×Nrm):=[(3,⟨[],[],[],[],[]⟩),(10,⟨[6,7,8],[],[],[],[]⟩)]
def oD:Lk:=⟨[],[(10,⟨[(6,.i),(7,.i),(8,.c x64)],[]⟩,[(0,⟨[],[]⟩)])]⟩
def Na:Sig:=.of [.cell false (.sl 84 Tq1)] [Dv] (fun a=>Jg N a)
theorem Q3:Dq 250 (Na N):=Du (Dt [(202,NS N)] kE) oD Tryz.f250 N (Dp ⟨Nr N,trivial⟩)
def Qn:Sig:=.of [Sq2,Ea] [Dw,Dv] (fun a=>Hf N a.1 a.2)
theorem QG:Dq 121 (Qn N):=Du (Dt [(202,NS N),(123,Ho N),(56,V6 N)] []) ⟨[],[]⟩ Tryz.f121 N (Dp ⟨Nr N,Gq N,Yb N,trivial⟩)
def AeX:List (Nat×Nrm):=[(29,⟨[1,2,4,6,11,13],[],[],[],[]⟩),(53,⟨[1,4,6],[],[(some 34304,2,Az)],[],[]⟩)]
def AgR:Lk:=⟨[(29,⟨[(1,.i),(2,.c AL),(4,.c AU),(6,.c Bc),(11,.i),(13,.c xb)],[(33280,.box BU),(33792,.box [AA,AB,(xo 33795)]),(33795,.Ed 144 false Az),(34304,.box [AA,AB,(xo 34307)]),(34307,.Ed 144 false Az)]⟩),(53,⟨[(1,.i),(4,.c AU),(6,.c Bc)],[(33792,.box [AA,AB,(xo 33795)]),(33795,.Ed 144 false Az),(34304,.box [x64,xs,Bq])]⟩)],[]⟩
def V7:Sig:=.of [G9,Ea] [Sq2,Dv] (fun a=>G7 N a.1 a.2)
theorem Yc:Dq 401 (V7 N):=Du (Dt [(107,V5 N),(202,NS N)] AeX) AgR Tryz.f401 N (Dp ⟨Ya N,Nr N,trivial⟩)
def QI:Sig:=.of [Agn] [G9] (fun a=>La N a)
theorem Ui:Dq 93 (QI N):=Du (Dt [(179,KC N),(180,WS N),(181,Vb N)] []) ⟨[],[]⟩ Tryz.f93 N (Dp ⟨LG N,mO N,iZ N,trivial⟩)
def Yr:Sig:=.of [Sq1] [Dw] (fun a=>OT N a)
theorem rZ:Dq 185 (Yr N):=Du (Dt [(234,Ld N)] []) ⟨[],[]⟩ Tryz.f185 N (Dp ⟨ML N,trivial⟩)
def kG:List (Nat×Nrm):=[(13,⟨[1,4],[],[],[],[]⟩)]
def oG:Lk:=⟨[(13,⟨[(1,.c AP),(4,.c xb)],[(33024,.box BR)]⟩)],[]⟩
def TK:Sig:=.of [Sq4] [Dv] (fun a=>KU N a)
theorem bJ:Dq 203 (TK N):=Du (Dt [(250,Na N),(114,KI N)] kG) oG Tryz.f203 N (Dp ⟨Q3 N,JX N,trivial⟩)
def wM:List (Nat×Nrm):=[(3,⟨[5],[],[],[],[]⟩),(26,⟨[5,16,17,18],[],[],[],[]⟩)]
def Aab:Lk:=⟨[],[(26,⟨[(5,.c xs),(16,.i),(17,.i),(18,.c x64)],[]⟩,[(0,⟨[(5,.c xs)],[]⟩)])]⟩
def P9:Sig:=.of [.cell false (.sl 84 Tq1)] [Dw,Dv] (fun a=>Si N a)
theorem SX:Dq 217 (P9 N):=Du (Dt [(292,X3 N),(121,Qn N)] wM) Aab Tryz.f217 N (Dp ⟨Zz N,QG N,trivial⟩)
def wL:List (Nat×Nrm):=[(3,⟨[7],[([7],84,Tq1,1004096)],[],[(1000000,1004096)],[]⟩),(38,⟨[7,26,27,28],[([7],84,Tq1,1000000)],[],[(43776,1000000)],[]⟩)]
def Aaa:Lk:=⟨[],[(38,⟨[(7,.c (xo 1000000)),(26,.i),(27,.i),(28,.c x64)],[(1000000,.arr 84 false Tq1)]⟩,[(0,⟨[(7,.c (xo 1004096))],[(1004096,.arr 84 false Tq1)]⟩)])]⟩
def P8:Sig:=.of [Dw] [.cell false (.sl 84 Tq1),Dv] (fun a=>Hr N a)
theorem SV:Dq 355 (P8 N):=Du (Dt [(192,Hm N),(292,X3 N),(401,V7 N)] wL) Aaa Tryz.f355 N (Dp ⟨Gp N,Zz N,Yc N,trivial⟩)
def Ve:Sig:=.of [AcW] [G9] (fun a=>JD N a)
theorem jM:Dq 28 (Ve N):=Du (Dt [(92,JJ N),(93,QI N)] [] [] [] [] [] [] [(93,[(0,1),(0,2),(0,3)])]) ⟨[],[]⟩ Tryz.f28 N (Dp ⟨KG N,Ui N,trivial⟩)
def wX:List (Nat×Nrm):=[(3,⟨[10],[],[],[],[]⟩),(42,⟨[0,10,11,12],[],[],[],[]⟩)]
def Aav:Lk:=⟨[],[(42,⟨[(0,.c AO),(10,.c xs),(11,.c x64),(12,.c x64)],[(0,.box BK)]⟩,[(0,⟨[(10,.c xs)],[(0,.box BK)]⟩)])]⟩
def WR:Sig:=.of [Agn,Dv,Dw] [Dw,Dv] (fun a=>Ny N a.1 a.2.1 a.2.2)
theorem mM:Dq 155 (WR N):=Du (Dt [(179,KC N),(152,JF N),(93,QI N),(177,Uj N),(241,Af8 N),(242,Wi N)] wX [] [] [] [] [] [(93,[(0,1),(0,2),(0,3)])]) Aav Tryz.f155 N (Dp ⟨LG N,KE N,Ui N,WU N,AiU N,VE N,trivial⟩)
def nM:List (Nat×Nrm):=[(3,⟨[5],[],[],[],[]⟩),(34,⟨[5,17,18,19],[],[],[],[]⟩),(53,⟨[5,7,8,17,18,19],[],[],[],[]⟩)]
def rV:Lk:=⟨[(53,⟨[(5,.i),(7,.c (.c (.ptr 34560 0))),(8,.c xs),(17,.i),(18,.i),(19,.i)],[(34560,.box BR)]⟩)],[(34,⟨[(5,.c xs),(17,.i),(18,.i),(19,.c x64)],[]⟩,[(0,⟨[(5,.c xs)],[]⟩)])]⟩
def UE:Sig:=.of [.cell false (.sl 153 Tq2)] [Dw,Dv] (fun a=>Jm N a)
theorem cO:Dq 190 (UE N):=Du (Dt [(183,O7 N),(185,Yr N),(43,Fp N),(187,Yt N),(189,XM N),(67,JL N)] nM) rV Tryz.f190 N (Dp ⟨Rj N,rZ N,EM N,sD N,aT N,IY N,trivial⟩)
def gI:List (Nat×Nrm):=[(3,⟨[],[],[],[],[]⟩),(18,⟨[9,10,11],[],[],[],[]⟩)]
def jX:Lk:=⟨[],[(18,⟨[(9,.i),(10,.i),(11,.c x64)],[]⟩,[(0,⟨[],[]⟩)])]⟩
def Js:Sig:=.of [.cell false (.sl 153 Tq2)] [Dv] (fun a=>IA N a)
theorem JW:Dq 117 (Js N):=Du (Dt [(203,TK N)] gI) jX Tryz.f117 N (Dp ⟨bJ N,trivial⟩)
def gU:List (Nat×Nrm):=[(45,⟨[0,2,4,5],[],[(some 34048,0,Tq1)],[],[]⟩),(73,⟨[0,2,4,5],[],[],[],[]⟩),(105,⟨[0,2,4,5],[],[(some 34048,3,Az)],[],[]⟩)]
def kH:Lk:=⟨[(45,⟨[(0,.c AO),(2,.c AL),(4,.c AU),(5,.c AX)],[(0,.box [Bl]),(33280,.box BN),(33281,.Ed 84 false Tq1),(33284,.Ed 144 false Az),(33792,.box BO),(33793,.Ed 84 false Tq1),(33796,.Ed 144 false Az),(34048,.box [Be,AA,AQ,(xo 34052)]),(34052,.Ed 144 false Az)]⟩),(73,⟨[(0,.c AO),(2,.c AL),(4,.c AU),(5,.c AX)],[(0,.box [Bl]),(33280,.box BN),(33281,.Ed 84 false Tq1),(33284,.Ed 144 false Az),(33792,.box BO),(33793,.Ed 84 false Tq1),(33796,.Ed 144 false Az),(34048,.box [Be,x64,AQ,(xo 34052)]),(34052,.Ed 144 false Az)]⟩),(105,⟨[(0,.c AO),(2,.c AL),(4,.c AU),(5,.c AX)],[(0,.box [Bl]),(33280,.box BN),(33281,.Ed 84 false Tq1),(33284,.Ed 144 false Az),(33792,.box BO),(33793,.Ed 84 false Tq1),(33796,.Ed 144 false Az),(34048,.box BR)]⟩)],[]⟩
def SI:Sig:=.of [Lp] [Sq4,Dv] (fun a=>Kw N a)
theorem Zc:Dq 358 (SI N):=Du (Dt [(109,IL N),(73,GN N),(355,P8 N),(357,ZV N),(49,FK N)] gU) kH Tryz.f358 N (Dp ⟨IB N,Ji N,SV N,eX N,Fv N,trivial⟩)
def UN:Sig:=.of [AcW,Dw] [Dw,Dv] (fun a=>Jn N a.1 a.2)
theorem dA:Dq 81 (UN N):=Du (Dt [(92,JJ N),(154,UM N),(155,WR N)] []) ⟨[],[]⟩ Tryz.f81 N (Dp ⟨KG N,cZ N,mM N,trivial⟩)
def yP:Sig:=.of [.box [(false,.bool)],FW] [Dw] (fun a=>RV N a.1 a.2)
theorem kY:Dq 332 (yP N):=Du (Dt [(217,P9 N),(55,EZ N),(52,F9 N)] []) ⟨[],[]⟩ Tryz.f332 N (Dp ⟨SX N,EL N,Fg N,trivial⟩)
def NM:Sig:=.of [FW] [Dv] (fun a=>Pg N a)
theorem UU:Dq 251 (NM N):=Du (Dt [(309,OV N)] []) ⟨[],[]⟩ Tryz.f251 N (Dp ⟨PY N,trivial⟩)
def nY:List (Nat×Nrm):=[(3,⟨[0,6],[([6],9,Aq,1004096)],[],[(1000000,1004096)],[]⟩),(22,⟨[0,6,15,16,17],[([6],9,Aq,1000000)],[],[(43264,1000000)],[]⟩)]
def sQ:Lk:=⟨[],[(22,⟨[(0,.i),(6,.c (xo 1000000)),(15,.i),(16,.i),(17,.c x64)],[(1000000,.arr 9 false Aq)]⟩,[(0,⟨[(0,.i),(6,.c (xo 1004096))],[(1004096,.arr 9 false Aq)]⟩)])]⟩
def UT:Sig:=.of [Dv,.cell false (.sl 84 Tq1)] [Dw,Dv] (fun a=>PZ N a.1 a.2)
theorem dD:Dq 436 (UT N):=Du (Dt [(121,Qn N),(123,Ho N)] nY) sQ Tryz.f436 N (Dp ⟨QG N,Gq N,trivial⟩)
def nX:List (Nat×Nrm):=[(3,⟨[6],[([6],84,Tq1,1004096)],[],[(1000000,1004096)],[]⟩),(34,⟨[6,23,24,25],[([6],84,Tq1,1000000)],[],[(48128,1000000)],[]⟩)]
def sO:Lk:=⟨[],[(34,⟨[(6,.c (xo 1000000)),(23,.i),(24,.i),(25,.c x64)],[(1000000,.arr 84 false Tq1)]⟩,[(0,⟨[(6,.c (xo 1004096))],[(1004096,.arr 84 false Tq1)]⟩)])]⟩
def UR:Sig:=.of [Dw] [.cell false (.sl 84 Tq1),Dv] (fun a=>Lm N a)
theorem dC:Dq 437 (UR N):=Du (Dt [(192,Hm N),(401,V7 N)] nX) sO Tryz.f437 N (Dp ⟨Gp N,Yc N,trivial⟩)
def Yn:Sig:=.of [AcX] [Dv] (fun a=>OM N a)
theorem rP:Dq 62 (Yn N):=Du (Dt [(132,JC N),(133,SB N),(134,QN N)] [] [] [] [] [28,32,33,37,38,42,43,49]) ⟨[],[]⟩ Tryz.f62 N (Dp ⟨JH N,Vd N,UD N,trivial⟩)
def aW:Sig:=.of [Ago] [Dw,Dv] (fun a=>nV N a)
theorem xM:Dq 397 (aW N):=Du (Dt [(309,OV N),(436,UT N),(123,Ho N)] []) ⟨[],[]⟩ Tryz.f397 N (Dp ⟨PY N,dD N,Gq N,trivial⟩)
def yJ:Sig:=.of [Dw,Q9] [Dv] (fun a=>RQ N a.1 a.2)
theorem kM:Dq 333 (yJ N):=Du (Dt [(73,GN N),(355,P8 N)] []) ⟨[],[]⟩ Tryz.f333 N (Dp ⟨Ji N,SV N,trivial⟩)
def Acf:List (Nat×Nrm):=[(46,⟨[2,4,5,8,37,38,39],[],[],[],[]⟩)]
def aV:Sig:=.of [Dw] [Ago,Dv] (fun a=>nU N a)
theorem xK:Spec Tryz.prog 398 (aV N):=Jf (C:=ctx Tryz.prog [(148,Qa N),(192,Hm N),(309,OV N),(437,UR N)] Acf) (L:=⟨[],[]⟩) (fn:=Tryz.f398) (N:=N+9) (Dp ⟨MO N,Gp N,PY N,dC N,trivial⟩)
def xI:List (Nat×Nrm):=[(3,⟨[1,5,7],[],[],[],[]⟩),(11,⟨[1,5,10],[],[],[],[]⟩),(19,⟨[1,5,13],[],[],[],[]⟩),(27,⟨[1,5],[],[],[],[]⟩),(37,⟨[1,5,6],[],[],[],[]⟩),(41,⟨[1,5],[([5],176,Tq4,1000000)],[],[(45312,1000000)],[]⟩),(49,⟨[1,5],[],[],[(47872,1008192),(1000000,1008192)],[]⟩),(62,⟨[1,5,7,65,66,67],[],[],[],[]⟩),(81,⟨[1,5],[],[],[(53760,1012288),(1008192,1012288)],[]⟩),(94,⟨[1,5,10,88,89,90],[],[],[],[]⟩),(113,⟨[1,5],[],[],[(60160,1024576),(1012288,1024576)],[]⟩),(126,⟨[1,5,13,113,114,115],[],[],[],[]⟩),(145,⟨[1,5],[],[],[(67584,1036864),(1024576,1036864)],[]⟩),(161,⟨[1,5,16],[],[],[],[]⟩),(169,⟨[1,5,16],[],[],[],[]⟩),(173,⟨[1,5],[],[],[(75008,1049152),(1036864,1049152)],[]⟩),(181,⟨[1,5],[],[],[(77568,1061440),(1049152,1061440)],[]⟩),(193,⟨[1,5],[],[],[(81920,1065536),(1061440,1065536)],[]⟩),(213,⟨[1,5],[],[],[(86016,1069632),(1065536,1069632)],[]⟩),(221,⟨[1,5],[],[],[(88832,1073728),(1069632,1073728)],[]⟩),(229,⟨[1,5],[],[],[(92160,1077824),(1073728,1077824)],[]⟩),(234,⟨[1,5,237,238,239],[],[],[(100096,1077824)],[]⟩)]
def AaN:Lk:=⟨[(37,⟨[(1,.c AP),(5,.c x0),(6,.c xs)],[(33024,.box Bv)]⟩),(41,⟨[(1,.c AP),(5,.c (xo 1000000))],[(33024,.box Bv),(1000000,.arr 176 false Tq4)]⟩),(49,⟨[(1,.c AP),(5,.c (xo 1008192))],[(33024,.box Bv),(1008192,.arr 176 false Tq4)]⟩),(81,⟨[(1,.c AP),(5,.c (xo 1012288))],[(33024,.box Bv),(1012288,.arr 176 false Tq4)]⟩),(113,⟨[(1,.c AP),(5,.c (xo 1024576))],[(33024,.box Bv),(1024576,.arr 176 false Tq4)]⟩),(145,⟨[(1,.c AP),(5,.c (xo 1036864))],[(33024,.box Bv),(1036864,.arr 176 false Tq4)]⟩),(161,⟨[(1,.c AP),(5,.c (xo 1036864)),(16,.c xs)],[(33024,.box Bv),(1036864,.arr 176 false Tq4)]⟩),(169,⟨[(1,.c AP),(5,.c (xo 1036864)),(16,.c xs)],[(33024,.box Bv),(1036864,.arr 176 false Tq4)]⟩),(173,⟨[(1,.c AP),(5,.c (xo 1049152))],[(33024,.box Bv),(1049152,.arr 176 false Tq4)]⟩),(181,⟨[(1,.c AP),(5,.c (xo 1061440))],[(33024,.box Bv),(1061440,.arr 176 false Tq4)]⟩),(193,⟨[(1,.c AP),(5,.c (xo 1065536))],[(33024,.box Bv),(1065536,.arr 176 false Tq4)]⟩),(213,⟨[(1,.c AP),(5,.c (xo 1069632))],[(33024,.box Bv),(1069632,.arr 176 false Tq4)]⟩),(221,⟨[(1,.c AP),(5,.c (xo 1073728))],[(33024,.box Bv),(1073728,.arr 176 false Tq4)]⟩),(229,⟨[(1,.c AP),(5,.c (xo 1077824))],[(33024,.box Bv),(1077824,.arr 176 false Tq4)]⟩)],[(62,⟨[(1,.c AP),(5,.c (xo 1008192)),(7,.c xs),(65,.i),(66,.i),(67,.c x64)],[(33024,.box Bv),(1008192,.arr 176 false Tq4)]⟩,[(0,⟨[(1,.c AP),(5,.c (xo 1008192)),(7,.c xs)],[(33024,.box Bv),(1008192,.arr 176 false Tq4)]⟩)]),(94,⟨[(1,.c AP),(5,.c (xo 1012288)),(10,.c xs),(88,.i),(89,.i),(90,.c x64)],[(33024,.box Bv),(1012288,.arr 176 false Tq4)]⟩,[(2,⟨[(1,.c AP),(5,.c (xo 1012288)),(10,.c xs)],[(33024,.box Bv),(1012288,.arr 176 false Tq4)]⟩)]),(126,⟨[(1,.c AP),(5,.c (xo 1024576)),(13,.c xs),(113,.i),(114,.i),(115,.c x64)],[(33024,.box Bv),(1024576,.arr 176 false Tq4)]⟩,[(4,⟨[(1,.c AP),(5,.c (xo 1024576)),(13,.c xs)],[(33024,.box Bv),(1024576,.arr 176 false Tq4)]⟩)]),(234,⟨[(1,.c AP),(5,.c (xo 1077824)),(237,.c (xo 93440)),(238,.i),(239,.c x64)],[(33024,.box Bv),(93440,.arr 33 false (.sl 153 Tq2 .nil)),(1077824,.arr 176 false Tq4)]⟩,[(6,⟨[(1,.c AP),(5,.c (xo 1077824))],[(33024,.box Bv),(1077824,.arr 176 false Tq4)]⟩)])]⟩
def Xh:Sig:=.of [FW] [.cell false (.sl 176 Tq4),Dv] (fun a=>NK N a)
theorem nK:Dq 140 (Xh N):=Du (Dt [(134,QN N),(188,fQ N),(68,VO N),(43,Fp N),(189,XM N),(142,Ri N),(234,Ld N),(235,Rh N),(190,UE N)] xI) AaN Tryz.f140 N (Dp ⟨UD N,AaQ N,Yu N,EM N,aT N,Qu N,ML N,YD N,cO N,trivial⟩)
def bH:List (Nat×Nrm):=[(3,⟨[5,6],[([6],9,Aq,1016384)],[],[(1000000,1016384)],[]⟩),(38,⟨[5,6,22,23,24],[([6],9,Aq,1000000)],[],[(54272,1000000)],[]⟩),(57,⟨[5,6,8,9,22,23,24],[([6],9,Aq,1004096)],[],[(1000000,1004096)],[]⟩),(65,⟨[5,6,8,9,22,23,24],[([6],9,Aq,1008192)],[],[(1004096,1008192)],[]⟩),(77,⟨[5,6,9,22,23,24],[([6],9,Aq,1012288)],[],[(1008192,1012288)],[]⟩)]
def gK:Lk:=⟨[(57,⟨[(5,.c Ba),(6,.c (xo 1004096)),(8,.c AZ),(9,.c (xo 39936)),(22,.i),(23,.i),(24,.i)],[(34816,.box BR),(38144,.box [xb]),(39936,.arr 9 false Aq),(1004096,.arr 9 false Aq)]⟩),(65,⟨[(5,.c Ba),(6,.c (xo 1008192)),(8,.c AZ),(9,.c (xo 39936)),(22,.i),(23,.i),(24,.i)],[(34816,.box BR),(38144,.box [xb]),(39936,.arr 9 false Aq),(1008192,.arr 9 false Aq)]⟩),(77,⟨[(5,.c Ba),(6,.c (xo 1012288)),(9,.c (xo 39936)),(22,.i),(23,.i),(24,.i)],[(38144,.box [xb]),(39936,.arr 9 false Aq),(1012288,.arr 9 false Aq)]⟩)],[(38,⟨[(5,.c Ba),(6,.c (xo 1000000)),(22,.i),(23,.i),(24,.c x64)],[(38144,.box [xb]),(1000000,.arr 9 false Aq)]⟩,[(0,⟨[(5,.c Ba),(6,.c (xo 1016384))],[(38144,.box [xb]),(1016384,.arr 9 false Aq)]⟩)])]⟩
def Lt:Sig:=.of [.cell false (.sl 153 Tq2)] [Dw,Dv] (fun a=>MZ N a)
theorem OC:Dq 131 (Lt N):=Du (Dt [(117,Js N),(217,P9 N),(55,EZ N),(58,EO N),(218,Ux N),(121,Qn N),(52,F9 N),(61,RZ N)] bH) gK Tryz.f131 N (Dp ⟨JW N,SX N,EL N,EH N,Xa N,QG N,Fg N,Oy N,trivial⟩)
def bG:List (Nat×Nrm):=[(3,⟨[6],[([6],153,Tq2,1004096)],[],[(1000000,1004096)],[]⟩),(30,⟨[4,6],[([6],153,Tq2,1000000)],[],[(44032,1000000)],[]⟩)]
def gJ:Lk:=⟨[],[(30,⟨[(4,.c (.c (.ptr 36096 0))),(6,.c (xo 1000000))],[(36096,.box [Bl]),(1000000,.arr 153 false Tq2)]⟩,[(0,⟨[(6,.c (xo 1004096))],[(1004096,.arr 153 false Tq2)]⟩)])]⟩
def Ls:Sig:=.of [Dw] [.cell false (.sl 153 Tq2),Dv] (fun a=>MX N a)
theorem OB:Dq 275 (Ls N):=Du (Dt [(196,Iw N),(358,SI N),(117,Js N)] bG [(44,Nk N),(197,GV N)]) gJ Tryz.f275 N (Dp ⟨Ik N,Zc N,JW N,trivial⟩ ⟨Pz N,Jt N,trivial⟩)
def Adg:List (Nat×Nrm):=[(3,⟨[1,10],[],[],[],[]⟩),(130,⟨[1,10,120,121,122],[],[],[],[]⟩)]
def Ae4:Lk:=⟨[],[(130,⟨[(1,.c AP),(10,.c x64),(120,.i),(121,.i),(122,.c x64)],[(33024,.box Bv)]⟩,[(0,⟨[(1,.c AP),(10,.c x64)],[(33024,.box Bv)]⟩)])]⟩
def OA:Sig:=.of [FW] [Dv] (fun a=>Ro N a)
theorem OZ:Dq 166 (OA N):=Du (Dt [(247,lG N),(248,WE N),(249,Qz N),(250,Na N),(251,NM N),(117,Js N),(252,Qh N),(253,QQ N)] Adg [] [(127,zG N)] [] [15,19,20,24,28,29,34,39,40,45,46,51,52,56,57,61]) Ae4 Tryz.f166 N (Dp ⟨AbK N,kD N,Xq N,Q3 N,UU N,JW N,QF N,Y4 N,trivial⟩ trivial ⟨AeI N,trivial⟩)
def Zl:Sig:=.of [.box [(false,.bool)],FW] [Dw] (fun a=>L6 N a.1 a.2)
theorem WJ:Dq 335 (Zl N):=Du (Dt [(397,aW N),(55,EZ N)] []) ⟨[],[]⟩ Tryz.f335 N (Dp ⟨xM N,EL N,trivial⟩)
def Ze:Sig:=.of [Dw,Q9] [Dv] (fun a=>Lu N a.1 a.2)
theorem WG:Dq 336 (Ze N):=Du (Dt [(398,aV N)] []) ⟨[],[]⟩ Tryz.f336 N (Dp ⟨xK N,trivial⟩)
def FY:Sig:=.of [AcX] [Dv] (fun a=>TG N a)
theorem dI:Dq 85 (FY N):=Du (Dt [(114,KI N),(164,Aco N),(165,MG N),(166,OA N)] []) ⟨[],[]⟩ Tryz.f85 N (Dp ⟨JX N,Ag0 N,LQ N,OZ N,trivial⟩)
def vY:Sig:=.of [.box [(false,.bool)],FW] [Dw] (fun a=>QE N a.1 a.2)
theorem iE:Dq 344 (vY N):=Du (Dt [(131,Lt N),(55,EZ N)] []) ⟨[],[]⟩ Tryz.f344 N (Dp ⟨OC N,EL N,trivial⟩)
def kV:Sig:=.of [.box [(false,.bool)],FW] [Dw] (fun a=>Oq N a.1 a.2)
theorem Zm:Dq 347 (kV N):=Du (Dt [(131,Lt N),(55,EZ N)] []) ⟨[],[]⟩ Tryz.f347 N (Dp ⟨OC N,EL N,trivial⟩)
def vS:Sig:=.of [Dw,Q9] [Dv] (fun a=>QC N a.1 a.2)
theorem gX:Dq 345 (vS N):=Du (Dt [(275,Ls N)] []) ⟨[],[]⟩ Tryz.f345 N (Dp ⟨OB N,trivial⟩)
def oK:Sig:=.of [.box [(false,.bool)],FW] [Dw] (fun a=>Pv N a.1 a.2)
theorem bU:Dq 329 (oK N):=Du (Dt [(53,Np N)] []) ⟨[],[]⟩ Tryz.f329 N (Dp ⟨Oz N,trivial⟩)
def gZ:Sig:=.of [.box [(false,.bool)],FW] [Dw] (fun a=>Nj N a.1 a.2)
theorem Y6:Dq 341 (gZ N):=Du (Dt [(58,EO N),(52,F9 N)] []) ⟨[],[]⟩ Tryz.f341 N (Dp ⟨EH N,Fg N,trivial⟩)
def Xi:Sig:=.of [Dv,FW] [Dw,Dv] (fun a=>NL N a.1 a.2)
theorem nO:Dq 66 (Xi N):=Du (Dt [(140,Xh N),(100,fU N)] []) ⟨[],[]⟩ Tryz.f66 N (Dp ⟨nK N,AaW N,trivial⟩)
def kK:Sig:=.of [Dw,Q9] [Dv] (fun a=>Oi N a.1 a.2)
theorem Zf:Dq 348 (kK N):=Du (Dt [(275,Ls N)] []) ⟨[],[]⟩ Tryz.f348 N (Dp ⟨OB N,trivial⟩)
def Tt:Sig:=.of [AcX] [Dw,Dv] (fun a=>O8 N a)
theorem aO:Dq 17 (Tt N):=Du (Dt [(62,Yn N),(63,PR N),(64,Xc N),(65,Yo N),(66,Xi N),(68,VO N),(43,Fp N),(69,LU N),(67,JL N)] []) ⟨[],[]⟩ Tryz.f17 N (Dp ⟨rP N,Tq N,mZ N,rU N,nO N,Yu N,EM N,NJ N,IY N,trivial⟩)
def AhU (N n:Nat):Sig:=.of [.box [(false,.bool)],FW] [.cell false .str] (AmX N n)
theorem AnV:Qc Tryz.prog (AhU N):=SL (Dx:=[.box [(false,.bool)],FW]) (DL:=[.cell false .str]) (l:=[(311,fun a=>RU N a.1 a.2),(314,fun a=>RX N a.1 a.2),(317,fun a=>Ov N a.1 a.2),(320,fun a=>Ou N a.1 a.2),(323,fun a=>Ot N a.1 a.2),(326,fun a=>QD N a.1 a.2),(329,fun a=>Pv N a.1 a.2),(332,fun a=>RV N a.1 a.2),(335,fun a=>L6 N a.1 a.2),(338,fun a=>Px N a.1 a.2),(341,fun a=>Nj N a.1 a.2),(344,fun a=>QE N a.1 a.2),(347,fun a=>Oq N a.1 a.2)]) ⟨kU N,lF N,Zp N,Zo N,Zn N,iC N,bU N,kY N,WJ N,bV N,Y6 N,iE N,Zm N,trivial⟩
def AhV (N n:Nat):Sig:=.of [.cell false .str,Q9] [.cell false (.int .i64)] (AmY N n)
theorem AnX:Qc Tryz.prog (AhV N):=SL (Dx:=[.cell false .str,Q9]) (DL:=[.cell false (.int .i64)]) (l:=[(312,fun a=>RP N a.1 a.2),(315,fun a=>RS N a.1 a.2),(318,fun a=>Om N a.1 a.2),(321,fun a=>Ol N a.1 a.2),(324,fun a=>Oj N a.1 a.2),(327,fun a=>QB N a.1 a.2),(330,fun a=>Pj N a.1 a.2),(333,fun a=>RQ N a.1 a.2),(336,fun a=>Lu N a.1 a.2),(339,fun a=>Pm N a.1 a.2),(342,fun a=>Nb N a.1 a.2),(345,fun a=>QC N a.1 a.2),(348,fun a=>Oi N a.1 a.2)]) ⟨kJ N,kR N,Zi N,Zh N,Zg N,gW N,bM N,kM N,WG N,bT N,Y5 N,gX N,Zf N,trivial⟩
def AbF:List (Nat×Nrm):=[(3,⟨[1,5,6],[([6],176,Tq4,1004096)],[],[(1000000,1004096)],[]⟩),(30,⟨[1,5,6,16,17,18],[([6],176,Tq4,1000000)],[],[(44032,1000000)],[]⟩)]
def Adi:Lk:=⟨[],[(30,⟨[(1,.c AP),(5,.c (.c (.ptr 36608 0))),(6,.c (xo 1000000)),(16,.i),(17,.i),(18,.c x64)],[(33024,.box Bv),(36608,.box [xb]),(1000000,.arr 176 false Tq4)]⟩,[(0,⟨[(1,.c AP),(5,.c (.c (.ptr 36608 0))),(6,.c (xo 1004096))],[(33024,.box Bv),(36608,.box [xb]),(1004096,.arr 176 false Tq4)]⟩)])]⟩
def YZ:Sig:=.of [FW] [.cell false (.sl 176 Tq4),Dv] (fun a=>jZ N a)
theorem vN:Dq 168 (YZ N):=Du (Dt [(166,OA N),(252,Qh N),(61,RZ N)] AbF [] [(23,zG N),(38,AhU N)]) Adi Tryz.f168 N (Dp ⟨OZ N,QF N,Oy N,trivial⟩ trivial ⟨AeI N,AnV N,trivial⟩)
def Ae6:List (Nat×Nrm):=[(3,⟨[0,5],[],[],[],[]⟩),(18,⟨[0,5,15,16,17],[],[],[],[]⟩)]
def Ag3:Lk:=⟨[],[(18,⟨[(0,.c AO),(5,.c AX),(15,.i),(16,.i),(17,.c x64)],[(0,.box BI),(5,.arr 9 true Aq),(6,.arr 9 true Aq),(7,.arr 267 true (.str Aq)),(19,.arr 176 true Tq4),(34048,.box [xs,xb,xs])]⟩,[(0,⟨[(0,.c AO),(5,.c AX)],[(0,.box BI),(5,.arr 9 true Aq),(6,.arr 9 true Aq),(7,.arr 267 true (.str Aq)),(19,.arr 176 true Tq4),(34048,.box [xs,xb,xs])]⟩)])]⟩
def lH:Sig:=.of [Q9,.cell false (.sl 176 Tq4),An1] [Dv] (fun a=>yR N a.1 a.2.1 a.2.2)
theorem AbL:Dq 246 (lH N):=Du (Dt [(214,LJ N),(308,Vo N),(215,Wx N)] Ae6 [] [(66,AhV N)] [] [51,55,56,60,63,64]) Ag3 Tryz.f246 N (Dp ⟨JU N,XX N,VQ N,trivial⟩ trivial ⟨AnX N,trivial⟩)
def XV:Sig:=.of [.box [(false,.bool)],FW] [Dw] (fun a=>dJ N a.1 a.2)
theorem oC:Dq 88 (XV N):=Du (Dt [(168,YZ N),(55,EZ N),(59,zN N),(58,EO N)] []) ⟨[],[]⟩ Tryz.f88 N (Dp ⟨vN N,EL N,AeP N,EH N,trivial⟩)
def AbE:List (Nat×Nrm):=[(3,⟨[2,4],[],[],[(36101,1004144),(36102,1004128),(36103,1004112),(36115,1004096),(1000000,1004096),(1000016,1004112),(1000032,1004128),(1000048,1004144)],[]⟩),(22,⟨[0,2,4,14,15,16],[],[],[(33797,1000048),(33798,1000032),(33799,1000016),(33811,1000000),(36101,1000048),(36102,1000032),(36103,1000016),(36115,1000000)],[]⟩)]
def Adh:Lk:=⟨[],[(22,⟨[(0,.i),(2,.c AL),(4,.c AU),(14,.i),(15,.i),(16,.c x64)],[(33280,.box Bz),(33285,.Ed 9 false Aq),(33286,.Ed 9 false Aq),(33287,.Ed 267 false (.str Aq)),(33291,.Ed 84 false Tq1),(33293,.Ed 84 false Tq1),(33294,.Ed 84 false Tq1),(33297,.Ed 153 false Tq2),(33298,.Ed 153 false Tq2),(33299,.Ed 176 false Tq4),(33792,.box BB),(1000000,.arr 176 true Tq4),(1000016,.arr 267 true (.str Aq)),(1000032,.arr 9 true Aq),(1000048,.arr 9 true Aq)]⟩,[(0,⟨[(2,.c AL),(4,.c AU)],[(33280,.box Bz),(33285,.Ed 9 false Aq),(33286,.Ed 9 false Aq),(33287,.Ed 267 false (.str Aq)),(33291,.Ed 84 false Tq1),(33293,.Ed 84 false Tq1),(33294,.Ed 84 false Tq1),(33297,.Ed 153 false Tq2),(33298,.Ed 153 false Tq2),(33299,.Ed 176 false Tq4),(33792,.box [xb,xb,x64,x64,(xo 1004144),(xo 1004128),(xo 1004112),x64,x64,x64,Be,xb,Be,Be,xs,xs,Bg,Bg,(xo 1004096)]),(1004096,.arr 176 true Tq4),(1004112,.arr 267 true (.str Aq)),(1004128,.arr 9 true Aq),(1004144,.arr 9 true Aq)]⟩)])]⟩
def YY:Sig:=.of [.cell false (.sl 176 Tq4)] [FW,Dv] (fun a=>jY N a)
theorem vM:Dq 163 (YY N):=Du (Dt [(161,Vk N),(246,lH N),(166,OA N)] AbE) Adh Tryz.f163 N (Dp ⟨XW N,AbL N,OZ N,trivial⟩)
def Ij:Sig:=.of [.box [(false,.bool)],Au4] [Dw] (fun a=>Qg N a.1 a.2)
theorem Ae2:Dq 86 (Ij N):=Du (Dt [(53,Np N),(58,EO N),(54,Kz N),(56,V6 N),(55,EZ N),(57,tX N),(52,F9 N),(87,ZC N),(88,XV N)] []) ⟨[],[]⟩ Tryz.f86 N (Dp ⟨Oz N,EH N,LC N,Yb N,EL N,Adu N,Fg N,wR N,oC N,trivial⟩)
def YW:Sig:=.of [Au4,Dw] [Dv] (fun a=>jV N a.1 a.2)
theorem vJ:Dq 82 (YW N):=Du (Dt [(156,dM N),(157,tJ N),(83,RI N),(158,Acm N),(159,dL N),(160,Ae3 N),(161,Vk N),(109,IL N),(162,zM N),(163,YY N),(49,FK N)] [] [(104,Md N)]) ⟨[],[]⟩ Tryz.f82 N (Dp ⟨yG N,Adf N,UX N,Agz N,yF N,Ai4 N,XW N,IB N,AeN N,vM N,Fv N,trivial⟩ ⟨RY N,trivial⟩)
end
