import Derived.Test.YtfgdgdnlglejbaaGreatDoorA13
set_option linter.all false
namespace Go.Proofs.YtfgdgdnlglejbaaGreatDoor.Vm
noncomputable section
variable (N:Nat)
open Go.Proofs
def AsA:List (Nat×Nrm):=[(3,⟨[],[],[],[],[]⟩),(10,⟨[0,1,5],[],[],[],[]⟩)]
def Av0:Lk:=⟨[],[(10,⟨[(0,.i),(1,.i),(5,.c x64)],[]⟩,[(0,⟨[],[]⟩)])]⟩
def AlR:Sig:=.of [J7,.cell false .fn] [JS] (fun a=>AjK N a.1 a.2)
def Apk (N:Nat):Jw 361 (AlR N):=J3 (Jz [] AsA [] [(12,AnJ N)]) Av0 Tryz.f361 N (Jv trivial trivial ⟨Aul N,trivial⟩)
def zB:Sig:=.of [J7] [JS] (fun a=>iO N a)
def AaP (N:Nat):Jw 367 (zB N):=J3 (Jz [(408,AdC N),(409,Af8 N),(406,ZH N)] [] [] [] [] [13,17,18,21,22,25]) ⟨[],[]⟩ Tryz.f367 N (Jv ⟨AjG N,AkO N,Yv N,trivial⟩)
def Aie:Sig:=.of [J7] [JS] (fun a=>Af4 N a)
def AmD (N:Nat):Jw 368 (Aie N):=J3 (Jz [(406,ZH N)] []) ⟨[],[]⟩ Tryz.f368 N (Jv ⟨Yv N,trivial⟩)
def AaQ:Sig:=.of [J7] [JS] (fun a=>qY N a)
def Ah7 (N:Nat):Jw 369 (AaQ N):=J3 (Jz [(410,bY N),(406,ZH N),(411,Xc N)] []) ⟨[],[]⟩ Tryz.f369 N (Jv ⟨Aac N,Yv N,Zt N,trivial⟩)
def Aov:List (Nat×Nrm):=[(3,⟨[2,4,5,6],[],[],[],[]⟩),(11,⟨[2,4,5,6,7],[],[],[],[]⟩),(22,⟨[2,4,5,6],[],[],[],[]⟩),(38,⟨[2,4,5,6,7],[],[],[],[]⟩)]
def ApX:Lk:=⟨[],[(22,⟨[(2,.c AL),(4,.i),(5,.i),(6,.c x64)],[(33280,.box BJ)]⟩,[(0,⟨[(2,.c AL),(4,.i),(5,.i),(6,.c x64)],[(33280,.box BJ)]⟩)]),(38,⟨[(2,.c AL),(4,.c x64),(5,.i),(6,.i),(7,.c x64)],[(33280,.box BJ)]⟩,[(2,⟨[(2,.c AL),(4,.c x64),(5,.i),(6,.i),(7,.c x64)],[(33280,.box BJ)]⟩)])]⟩
def Afc:Sig:=.of [J4] [Sq7,J4] (fun a=>Ako N a)
def Akp (N:Nat):Jw 126 (Afc N):=J3 (Jz [(211,kD N),(212,kE N)] Aov) ApX Tryz.f126 N (Jv ⟨qM N,qN N,trivial⟩)
def gQ:Sig:=.of [J7] [J4] (fun a=>TB N a)
def fC (N:Nat):Jw 215 (gQ N):=J3 (Jz [(148,Xg N),(291,AgL N)] []) ⟨[],[]⟩ Tryz.f215 N (Jv ⟨Ut N,AlU N,trivial⟩)
def Ajd:List (Nat×Nrm):=[(49,⟨[1,6],[],[],[],[]⟩)]
def Ak6:Lk:=⟨[(49,⟨[(1,.c AP),(6,.c (xo 36864))],[(33024,.box [xs,xb,xs]),(36864,.arr 9 false Aq)]⟩)],[]⟩
def wJ:Sig:=.of [At5] [J7,J4] (fun a=>Adq N a)
def Afr (N:Nat):Jw 129 (wJ N):=J3 (Jz [(122,WQ N),(123,Oy N),(216,XX N)] Ajd) Ak6 Tryz.f129 N (Jv ⟨VW N,Nr N,aA N,trivial⟩)
open Go.Proofs
def AgG:Sig:=.of [J4,J7] [JS] (fun a=>Adi N a.1 a.2)
def AlQ (N:Nat):Jw 278 (AgG N):=J3 (Jz [(360,AlS N),(361,AlR N)] []) ⟨[],[]⟩ Tryz.f278 N (Jv ⟨Apl N,Apk N,trivial⟩)
def wP:Sig:=.of [J7] [JS] (fun a=>kN N a)
def Af5 (N:Nat):Jw 366 (wP N):=J3 (Jz [(367,zB N),(407,bF N),(406,ZH N)] []) ⟨[],[]⟩ Tryz.f366 N (Jv ⟨AaP N,vS N,Yv N,trivial⟩)
def Amr:List (Nat×Nrm):=[(3,⟨[6,7],[],[],[],[]⟩),(37,⟨[4,6,7],[],[],[(38144,1000000),(39680,1000000)],[]⟩),(42,⟨[6,7,38,39,40],[],[],[(44544,1000000)],[]⟩)]
def Aox:Lk:=⟨[(37,⟨[(4,.c AU),(6,.c x64),(7,.c (xo 1000000))],[(33792,.box BQ),(1000000,.arr 5 false Ar)]⟩)],[(42,⟨[(6,.i),(7,.c (xo 1000000)),(38,.c (xo 42496)),(39,.i),(40,.c x64)],[(42496,.arr 3 false Au),(1000000,.arr 5 false Ar)]⟩,[(0,⟨[(6,.i),(7,.c (xo 1000000))],[(1000000,.arr 5 false Ar)]⟩)])]⟩
def Adp:Sig:=.of [J4] [J7,J4] (fun a=>Vy N a)
def AiY (N:Nat):Jw 57 (Adp N):=J3 (Jz [(126,Afc N),(127,Aku N),(123,Oy N)] Amr) Aox Tryz.f57 N (Jv ⟨Akp N,Aoz N,Nr N,trivial⟩)
def Aqh:List (Nat×Nrm):=[(3,⟨[],[],[],[],[]⟩),(30,⟨[3,15,16,17],[],[],[],[]⟩)]
def ArS:Lk:=⟨[],[(30,⟨[(3,.c (xo 36352)),(15,.i),(16,.i),(17,.c x64)],[(36352,.mp Aq Au)]⟩,[(0,⟨[],[]⟩)])]⟩
def yX:Sig:=.of [.cell false (.sl 176 Tq4)] [J4] (fun a=>Zc N a)
def AaL (N:Nat):Jw 128 (yX N):=J3 (Jz [(213,AhY N),(214,TP N),(215,gQ N)] Aqh) ArS Tryz.f128 N (Jv ⟨Am6 N,RD N,fC N,trivial⟩)
def UH (N:Nat):Alt:=.of [.cell false .str,.cell false (.int .i64)] [TD,.cell false (.int .i64)] [.cell false .ptr,.cell false (.int .i64)] (fun a=>QL N a.1 a.2)
def WA (N:Nat):Spec Tryz.prog 44 (UH N).1/\Spec Tryz.prog 44 (UH N).2.1:=Uy (C:=ctx Tryz.prog [(73,NY N)] [] [(104,Ug N)]) (L:=⟨[],[]⟩) (fn:=Tryz.f44) (N:=N) (Jv ⟨Qv N,trivial⟩ ⟨YE N,trivial⟩) (by kernel_rfl) (by kernel_rfl) (fun a=>by kernel_rfl)
def vH:List (Nat×Nrm):=[(3,⟨[6],[([6],143,Tq0,1004096)],[],[(1000000,1004096)],[]⟩),(42,⟨[6,26,27,28],[([6],143,Tq0,1000000)],[],[(43776,1000000)],[]⟩)]
def yV:Lk:=⟨[],[(42,⟨[(6,.c (xo 1000000)),(26,.i),(27,.i),(28,.c x64)],[(1000000,.arr 143 false Tq0)]⟩,[(0,⟨[(6,.c (xo 1004096))],[(1004096,.arr 143 false Tq0)]⟩)])]⟩
def Yd:Sig:=.of [NL] [.cell false (.sl 143 Tq0),J4] (fun a=>LW N a)
def nZ (N:Nat):Jw 194 (Yd N):=J3 (Jz [(192,Ox N),(266,y9 N),(267,XG N)] vH) yV Tryz.f194 N (Jv ⟨Nq N,AgI N,kH N,trivial⟩)
open Go.Proofs
def yU:List (Nat×Nrm):=[(3,⟨[],[],[],[],[]⟩),(11,⟨[0,13,14,15],[],[],[],[]⟩),(26,⟨[0,13,14,15],[],[],[],[]⟩),(62,⟨[0,4,13,14,15,41,42,43],[],[],[],[]⟩)]
def AaJ:Lk:=⟨[],[(26,⟨[(0,.i),(13,.i),(14,.i),(15,.c x64)],[]⟩,[(0,⟨[],[]⟩)]),(62,⟨[(0,.i),(4,.c AU),(13,.i),(14,.i),(15,.i),(41,.i),(42,.i),(43,.c x64)],[(33792,.box [xs,x64,xs])]⟩,[(2,⟨[(0,.i),(13,.i),(14,.i),(15,.i)],[]⟩)])]⟩
def YZ:Sig:=.of [.cell false (.sl 143 Tq0)] [J4] (fun a=>Su N a)
def qQ (N:Nat):Jw 201 (YZ N):=J3 (Jz [(214,TP N),(278,AgG N)] yU) AaJ Tryz.f201 N (Jv ⟨RD N,AlQ N,trivial⟩)
def iL:Sig:=.of [J4,J7,JS] [JS] (fun a=>YH N a.1 a.2.1 a.2.2)
def AaN (N:Nat):Jw 280 (iL N):=J3 (Jz [(366,wP N),(367,zB N),(368,Aie N),(369,AaQ N),(370,Af6 N),(371,AaO N)] [] [] [] [] [11,14,15,18,21,22,26,29,30,33,36,37,41,44,45,48,51,52]) ⟨[],[]⟩ Tryz.f280 N (Jv ⟨Af5 N,AaP N,AmD N,Ah7 N,AkK N,Ah6 N,trivial⟩)
def Ao2:List (Nat×Nrm):=[(3,⟨[5],[([5],9,Aq,1004096)],[],[(1000000,1004096)],[]⟩),(26,⟨[5,17,18,19],[([5],9,Aq,1000000)],[],[(41216,1000000)],[]⟩)]
def Aqj:Lk:=⟨[],[(26,⟨[(5,.c (xo 1000000)),(17,.i),(18,.i),(19,.c x64)],[(1000000,.arr 9 false Aq)]⟩,[(0,⟨[(5,.c (xo 1004096))],[(1004096,.arr 9 false Aq)]⟩)])]⟩
def Afp:Sig:=.of [.cell false (.sl 176 Tq4)] [J7,J4] (fun a=>Ak3 N a)
def Ak4 (N:Nat):Jw 59 (Afp N):=J3 (Jz [(128,yX N),(129,wJ N),(123,Oy N)] Ao2) Aqj Tryz.f59 N (Jv ⟨AaL N,Afr N,Nr N,trivial⟩)
def Ao1:List (Nat×Nrm):=[(3,⟨[7],[([7],176,Tq4,1004096)],[],[(1000000,1004096)],[]⟩),(46,⟨[7,33,34,35],[([7],176,Tq4,1000000)],[],[(45568,1000000)],[]⟩)]
def Aqi:Lk:=⟨[],[(46,⟨[(7,.c (xo 1000000)),(33,.i),(34,.i),(35,.c x64)],[(1000000,.arr 176 false Tq4)]⟩,[(0,⟨[(7,.c (xo 1004096))],[(1004096,.arr 176 false Tq4)]⟩)])]⟩
def Afo:Sig:=.of [J7] [.cell false (.sl 176 Tq4),J4] (fun a=>o5 N a)
def Ak2 (N:Nat):Jw 162 (Afo N):=J3 (Jz [(148,Xg N),(192,Ox N),(245,wI N),(128,yX N)] Ao1) Aqi Tryz.f162 N (Jv ⟨Ut N,Nq N,Afq N,AaL N,trivial⟩)
open Go.Proofs
def XT (N:Nat):Alt:=.of [.cell false .str,.cell false (.int .i64)] [AlX,.cell false (.int .i64)] [.cell false .ptr,.cell false (.int .i64)] (fun a=>VU N a.1 a.2)
def Ael (N:Nat):Spec Tryz.prog 151 (XT N).1/\Spec Tryz.prog 151 (XT N).2.1:=Uy (C:=ctx Tryz.prog [(240,RU N)] [] [] [] [23]) (L:=⟨[],[]⟩) (fn:=Tryz.f151) (N:=N) (Jv ⟨QD N,trivial⟩) (by kernel_rfl) (by kernel_rfl) (fun a=>by kernel_rfl)
def ZQ:Sig:=.of [J7,J4,J4,J7,J7] [J7] (fun a=>Y0 N a.1 a.2.1 a.2.2.1 a.2.2.2.1 a.2.2.2.2)
def iY (N:Nat):Jw 178 (ZQ N):=J3 (Jz [(258,Aip N),(242,fU N),(240,RU N)] []) ⟨[],[]⟩ Tryz.f178 N (Jv ⟨AmS N,dX N,QD N,trivial⟩)
def Asx:List (Nat×Nrm):=[(3,⟨[5],[],[],[],[]⟩),(10,⟨[0,1,2,4,5,13],[],[],[],[]⟩)]
def Ave:Lk:=⟨[],[(10,⟨[(0,.i),(1,.i),(2,.i),(4,.i),(5,.c xs),(13,.c x64)],[]⟩,[(0,⟨[(5,.c xs)],[]⟩)])]⟩
def oC:Sig:=.of [J7,J4,J4,J4,J4,J7] [J7] (fun a=>dZ N a.1 a.2.1 a.2.2.1 a.2.2.2.1 a.2.2.2.2.1 a.2.2.2.2.2)
def kV (N:Nat):Jw 256 (oC N):=J3 (Jz [(349,Ac7 N),(350,Aj0 N),(240,RU N)] Asx) Ave Tryz.f256 N (Jv ⟨zM N,Aiu N,QD N,trivial⟩)
def sF:Sig:=.of [J7,J4,Sq6] [J7] (fun a=>ZX N a.1 a.2.1 a.2.2)
def xC (N:Nat):Jw 257 (sF N):=J3 (Jz [(349,Ac7 N),(304,Ac8 N),(240,RU N)] []) ⟨[],[]⟩ Tryz.f257 N (Jv ⟨zM N,Ad0 N,QD N,trivial⟩)
def sG:Sig:=.of [J7,J4,J4] [J7] (fun a=>ZY N a.1 a.2.1 a.2.2)
def xE (N:Nat):Jw 303 (sG N):=J3 (Jz [(349,Ac7 N),(350,Aj0 N),(240,RU N)] []) ⟨[],[]⟩ Tryz.f303 N (Jv ⟨zM N,Aiu N,QD N,trivial⟩)
def ZP:Sig:=.of [NL,J4,J7] [J7] (fun a=>SN N a.1 a.2.1 a.2.2)
def iW (N:Nat):Jw 177 (ZP N):=J3 (Jz [(242,fU N),(240,RU N)] []) ⟨[],[]⟩ Tryz.f177 N (Jv ⟨dX N,QD N,trivial⟩)
def Abp:List (Nat×Nrm):=[(53,⟨[2,5],[],[],[],[]⟩)]
def AcJ:Lk:=⟨[(53,⟨[(2,.c AL),(5,.c xb)],[(33280,.box [x64,xs,Bo])]⟩)],[]⟩
def QY:Sig:=.of [Sq2,JS] [J4] (fun a=>Ll N a.1 a.2)
def SE (N:Nat):Jw 294 (QY N):=J3 (Jz [(381,tH N),(382,tJ N),(383,Agk N),(384,xX N),(385,Ad6 N),(386,xR N),(132,QT N)] Abp [] [] [] [11,15,16,19,23,24,28,32,33,36,40,41,45,49,50,53,57,58]) AcJ Tryz.f294 N (Jv ⟨Aes N,xU N,AlC N,Ago N,Aj9 N,Agj N,QZ N,trivial⟩)
open Go.Proofs
def Amy:List (Nat×Nrm):=[(3,⟨[],[],[],[],[]⟩),(18,⟨[11,12,13],[],[],[],[]⟩)]
def Ao0:Lk:=⟨[],[(18,⟨[(11,.i),(12,.i),(13,.c x64)],[]⟩,[(0,⟨[],[]⟩)])]⟩
def SL:Sig:=.of [Sq1] [J4] (fun a=>NH N a)
def RS (N:Nat):Jw 114 (SL N):=J3 (Jz [(201,YZ N)] Amy) Ao0 Tryz.f114 N (Jv ⟨qQ N,trivial⟩)
def zZ (N:Nat):Alt:=.of [.cell false .str,.cell false (.int .i64),.cell false (.int .i64)] [AiA,.cell false (.int .i64)] [.cell false .ptr,.cell false (.int .i64)] (fun a=>Ag7 N a.1 a.2.1 a.2.2)
def Apg (N:Nat):Spec Tryz.prog 78 (zZ N).1/\Spec Tryz.prog 78 (zZ N).2.1:=Uy (C:=ctx Tryz.prog [(152,QW N)] [] [(151,XT N)]) (L:=⟨[],[]⟩) (fn:=Tryz.f78) (N:=N) (Jv ⟨SC N,trivial⟩ ⟨Ael N,trivial⟩) (by kernel_rfl) (by kernel_rfl) (fun a=>by kernel_rfl)
def AoI:List (Nat×Nrm):=[(3,⟨[0,2,9],[],[],[],[]⟩),(26,⟨[0,1,2,9,10],[([9],9,Aq,1000000)],[],[(40960,1000000)],[]⟩)]
def AqV:Lk:=⟨[],[(26,⟨[(0,.i),(1,.i),(2,.i),(9,.c (xo 1000000)),(10,.c x64)],[(1000000,.arr 9 false Aq)]⟩,[(0,⟨[(0,.i),(2,.i),(9,.c (xo 1000000))],[(1000000,.arr 9 false Aq)]⟩)])]⟩
def AfT:Sig:=.of [J7,J7,J4] [J7,J4] (fun a=>o9 N a.1 a.2.1 a.2.2)
def Alr (N:Nat):Jw 259 (AfT N):=J3 (Jz [(302,ZW N),(303,sG N),(256,oC N),(257,sF N)] AoI) AqV Tryz.f259 N (Jv ⟨jB N,xE N,kV N,xC N,trivial⟩)
def Asv:List (Nat×Nrm):=[(3,⟨[13],[],[],[],[]⟩),(38,⟨[0,1,2,11,13,14],[([13],9,Aq,1000000)],[],[(45056,1000000)],[]⟩)]
def Avc:Lk:=⟨[],[(38,⟨[(0,.i),(1,.i),(2,.i),(11,.i),(13,.c (xo 1000000)),(14,.c x64)],[(1000000,.arr 9 false Aq)]⟩,[(0,⟨[(13,.c (xo 1000000))],[(1000000,.arr 9 false Aq)]⟩)])]⟩
def Als:Sig:=.of [J7,J7,J4,J7] [J7,J4] (fun a=>Ac6 N a.1 a.2.1 a.2.2.1 a.2.2.2)
def AoK (N:Nat):Jw 241 (Als N):=J3 (Jz [(302,ZW N),(255,rZ N),(303,sG N),(256,oC N),(304,Ac8 N)] Asv) Avc Tryz.f241 N (Jv ⟨jB N,xB N,xE N,kV N,Ad0 N,trivial⟩)
def AmX:List (Nat×Nrm):=[(3,⟨[0,1,13],[],[],[],[]⟩),(46,⟨[0,1,3,11,13,14],[([13],9,Aq,1000000)],[],[(46336,1000000)],[]⟩)]
def AoJ:Lk:=⟨[],[(46,⟨[(0,.i),(1,.i),(3,.i),(11,.i),(13,.c (xo 1000000)),(14,.c x64)],[(1000000,.arr 9 false Aq)]⟩,[(0,⟨[(0,.i),(1,.i),(13,.c (xo 1000000))],[(1000000,.arr 9 false Aq)]⟩)])]⟩
def Adz:Sig:=.of [J7,J4,J7,J7] [J7,J4] (fun a=>fV N a.1 a.2.1 a.2.2.1 a.2.2.2)
def Ajz (N:Nat):Jw 176 (Adz N):=J3 (Jz [(254,ZV N),(255,rZ N),(256,oC N),(257,sF N)] AmX) AoJ Tryz.f176 N (Jv ⟨jA N,xB N,kV N,xC N,trivial⟩)
def Aez:List (Nat×Nrm):=[(3,⟨[],[],[],[],[]⟩),(18,⟨[9,10,11],[],[],[],[]⟩)]
def Agy:Lk:=⟨[],[(18,⟨[(9,.i),(10,.i),(11,.c x64)],[]⟩,[(0,⟨[],[]⟩)])]⟩
def WZ:Sig:=.of [.cell false (.sl 84 Tq1)] [J4] (fun a=>Qk N a)
def Zq (N:Nat):Jw 224 (WZ N):=J3 (Jz [(294,QY N)] Aez) Agy Tryz.f224 N (Jv ⟨SE N,trivial⟩)
open Go.Proofs
def Ah0:Sig:=.of [MP] [JS] (fun a=>ZA N a)
def AbR (N:Nat):Jw 346 (Ah0 N):=J3 (Jz [] []) ⟨[],[]⟩ Tryz.f346 N (Jv trivial)
def mJ:Sig:=.of [NL] [J7] (fun a=>wU N a)
def Acw (N:Nat):Jw 167 (mJ N):=J3 (Jz [] []) ⟨[],[]⟩ Tryz.f167 N (Jv trivial)
def dA:Sig:=.of [] [A2Z] (fun _=>Wu N)
def lU (N:Nat):Jw 161 (dA N):=J3 (Jz [] []) ⟨[],[]⟩ Tryz.f161 N (Jv trivial)
def uY:Sig:=.of [Sq6,AlY] [] (fun a=>QB N a.1 a.2)
def jY (N:Nat):Jw 395 (uY N):=J3 (Jz [] []) ⟨[],[]⟩ Tryz.f395 N (Jv trivial)
def uX:Sig:=.of [Sq6,AlY] [] (fun a=>QA N a.1 a.2)
def jX (N:Nat):Jw 396 (uX N):=J3 (Jz [] []) ⟨[],[]⟩ Tryz.f396 N (Jv trivial)
def Y8:Sig:=.of [J7] [J4] (fun a=>Ud N a)
def bM (N:Nat):Jw 399 (Y8 N):=J3 (Jz [] []) ⟨[],[]⟩ Tryz.f399 N (Jv trivial)
def YQ:Sig:=.of [NL] [J4] (fun a=>RH N a)
def bU (N:Nat):Jw 133 (YQ N):=J3 (Jz [] [] [] [] [] [6,10,11,16,17,22]) ⟨[],[]⟩ Tryz.f133 N (Jv trivial)
def Ag0:Sig:=.of [J4] [JS] (fun a=>Qp N a)
def AlH (N:Nat):Jw 221 (Ag0 N):=J3 (Jz [] []) ⟨[],[]⟩ Tryz.f221 N (Jv trivial)
open Go.Proofs
def Anq:List (Nat×Nrm):=[(3,⟨[3],[],[],[],[]⟩),(14,⟨[3,57,58,59],[],[],[],[]⟩)]
def Apd:Lk:=⟨[],[(14,⟨[(3,.c x64),(57,.c (xo 47360)),(58,.i),(59,.c x64)],[(47360,.arr 4 false (.bool .nil))]⟩,[(0,⟨[(3,.c x64)],[]⟩)])]⟩
def Ad8:Sig:=.of [MP] [J4] (fun a=>gJ N a)
def AjD (N:Nat):Jw 226 (Ad8 N):=J3 (Jz [] Anq) Apd Tryz.f226 N (Jv trivial)
def AdA:Sig:=.of [] [Sq6] (fun _=>Ai2 N)
def AjF (N:Nat):Jw 296 (AdA N):=J3 (Jz [] []) ⟨[],[]⟩ Tryz.f296 N (Jv trivial)
def AlE:Sig:=.of [J4] [J7] (fun a=>AjC N a)
def Apb (N:Nat):Jw 233 (AlE N):=J3 (Jz [] []) ⟨[],[]⟩ Tryz.f233 N (Jv trivial)
def AhG:List (Nat×Nrm):=[(3,⟨[],[],[],[],[]⟩),(11,⟨[2,3,20,21],[],[],[],[]⟩),(18,⟨[2,3,20,21],[],[],[],[]⟩),(19,⟨[2,3,5,8,20,21,41,42,43],[],[],[],[]⟩),(38,⟨[2,3,5,20,21,41,42,43],[],[],[],[]⟩),(54,⟨[2,3,5,7,8,20,21,41,42,43,51,52,53],[],[],[],[]⟩)]
def AjA:Lk:=⟨[],[(18,⟨[(2,.c AL),(3,.c AV),(20,.i),(21,.c x64)],[(33280,.box [Bo]),(33536,.box [Bo])]⟩,[(0,⟨[],[]⟩)]),(38,⟨[(2,.c AL),(3,.c AV),(5,.i),(20,.i),(21,.i),(41,.i),(42,.i),(43,.c x64)],[(33280,.box [Bo]),(33536,.box [Bo])]⟩,[(2,⟨[(2,.c AL),(3,.c AV),(20,.i),(21,.i)],[(33280,.box [Bo]),(33536,.box [Bo])]⟩)]),(54,⟨[(2,.c AL),(3,.c AV),(5,.i),(7,.c (.c (.ptr 34560 0))),(8,.c xb),(20,.i),(21,.i),(41,.i),(42,.i),(43,.i),(51,.i),(52,.i),(53,.c x64)],[(33280,.box [Bo]),(33536,.box [Bo]),(34560,.box [xs,x64,xs])]⟩,[(4,⟨[(2,.c AL),(3,.c AV),(5,.i),(8,.c xb),(20,.i),(21,.i),(41,.i),(42,.i),(43,.i)],[(33280,.box [Bo]),(33536,.box [Bo])]⟩)])]⟩
def Vd:Sig:=.of [Sq1,Sq1] [JS] (fun a=>LY N a.1 a.2)
def VI (N:Nat):Jw 89 (Vd N):=J3 (Jz [] AhG) AjA Tryz.f89 N (Jv trivial)
def AcR:List (Nat×Nrm):=[(3,⟨[],[],[],[],[]⟩),(18,⟨[0,1,12,13],[],[],[],[]⟩)]
def Aey:Lk:=⟨[],[(18,⟨[(0,.i),(1,.i),(12,.i),(13,.c x64)],[]⟩,[(0,⟨[],[]⟩)])]⟩
def bV:Sig:=.of [Sq6,Sq6] [JS] (fun a=>NS N a.1 a.2)
def zV (N:Nat):Jw 169 (bV N):=J3 (Jz [] AcR) Aey Tryz.f169 N (Jv trivial)
def Abz:List (Nat×Nrm):=[(3,⟨[],[],[],[],[]⟩),(18,⟨[0,1,12,13],[],[],[],[]⟩)]
def AcW:Lk:=⟨[],[(18,⟨[(0,.i),(1,.i),(12,.i),(13,.c x64)],[]⟩,[(0,⟨[],[]⟩)])]⟩
def aS:Sig:=.of [ApF,ApF] [JS] (fun a=>Q3 N a.1 a.2)
def vN (N:Nat):Jw 170 (aS N):=J3 (Jz [] Abz) AcW Tryz.f170 N (Jv trivial)
def vK:List (Nat×Nrm):=[(3,⟨[],[],[],[],[]⟩),(18,⟨[0,1,12,13],[],[],[],[]⟩)]
def zU:Lk:=⟨[],[(18,⟨[(0,.i),(1,.i),(12,.i),(13,.c x64)],[]⟩,[(0,⟨[],[]⟩)])]⟩
def Yo:Sig:=.of [.cell false (.sl 176 Tq4),.cell false (.sl 176 Tq4)] [JS] (fun a=>Pz N a.1 a.2)
def oI (N:Nat):Jw 174 (Yo N):=J3 (Jz [] vK) zU Tryz.f174 N (Jv trivial)
open Go.Proofs
def AiQ:Sig:=.of [MP] [JS] (fun a=>dG N a)
def AdY (N:Nat):Jw 322 (AiQ N):=J3 (Jz [] []) ⟨[],[]⟩ Tryz.f322 N (Jv trivial)
def AiR:Sig:=.of [MP] [JS] (fun a=>Ue N a)
def AdZ (N:Nat):Jw 325 (AiR N):=J3 (Jz [] []) ⟨[],[]⟩ Tryz.f325 N (Jv trivial)
def AiS:Sig:=.of [MP] [JS] (fun a=>dH N a)
def Aea (N:Nat):Jw 328 (AiS N):=J3 (Jz [] []) ⟨[],[]⟩ Tryz.f328 N (Jv trivial)
def AiT:Sig:=.of [MP] [JS] (fun a=>dI N a)
def Aeb (N:Nat):Jw 331 (AiT N):=J3 (Jz [] []) ⟨[],[]⟩ Tryz.f331 N (Jv trivial)
def AiU:Sig:=.of [MP] [JS] (fun a=>dJ N a)
def Aec (N:Nat):Jw 334 (AiU N):=J3 (Jz [] []) ⟨[],[]⟩ Tryz.f334 N (Jv trivial)
def Ahx:Sig:=.of [MP] [JS] (fun a=>Z7 N a)
def AbO (N:Nat):Jw 337 (Ahx N):=J3 (Jz [] []) ⟨[],[]⟩ Tryz.f337 N (Jv trivial)
def Ahy:Sig:=.of [MP] [JS] (fun a=>Z8 N a)
def AbP (N:Nat):Jw 340 (Ahy N):=J3 (Jz [] []) ⟨[],[]⟩ Tryz.f340 N (Jv trivial)
def Ahz:Sig:=.of [MP] [JS] (fun a=>Z9 N a)
def AbQ (N:Nat):Jw 343 (Ahz N):=J3 (Jz [] []) ⟨[],[]⟩ Tryz.f343 N (Jv trivial)
open Go.Proofs
def Afj (N n:Nat):Sig:=.of [MP] [.cell false .bool] (AgS N n)
def Akw (N:Nat):Xi Tryz.prog (Afj N):=YY (J6:=[MP]) (JJ:=[.cell false .bool]) (l:=[(310,fun a=>dC N a),(313,fun a=>dD N a),(316,fun a=>dE N a),(319,fun a=>dF N a),(322,fun a=>dG N a),(325,fun a=>Ue N a),(328,fun a=>dH N a),(331,fun a=>dI N a),(334,fun a=>dJ N a),(337,fun a=>Z7 N a),(340,fun a=>Z8 N a),(343,fun a=>Z9 N a),(346,fun a=>ZA N a)]) ⟨AdU N,AdV N,AdW N,AdX N,AdY N,AdZ N,Aea N,Aeb N,Aec N,AbO N,AbP N,AbQ N,AbR N,trivial⟩
def UE:Sig:=.of [J7] [J4,J4] (fun a=>Rx N a)
def V8 (N:Nat):Jw 390 (UE N):=J3 (Jz [(193,X5 N)] []) ⟨[],[]⟩ Tryz.f390 N (Jv ⟨XW N,trivial⟩)
def ApV (N n:Nat):Sig:=.of [Sq6,AlY] [] (AvY N n)
def AvZ (N:Nat):Xi Tryz.prog (ApV N):=YY (J6:=[Sq6,AlY]) (JJ:=[]) (l:=[(395,fun a=>QB N a.1 a.2)]) ⟨jY N,trivial⟩
def ApW (N n:Nat):Sig:=.of [Sq6,AlY] [] (Awa N n)
def Awb (N:Nat):Xi Tryz.prog (ApW N):=YY (J6:=[Sq6,AlY]) (JJ:=[]) (l:=[(396,fun a=>QA N a.1 a.2)]) ⟨jX N,trivial⟩
def Anr:List (Nat×Nrm):=[(3,⟨[],[],[],[],[]⟩),(10,⟨[0,5,6,7],[],[],[],[]⟩)]
def Apf:Lk:=⟨[],[(10,⟨[(0,.i),(5,.i),(6,.i),(7,.c x64)],[]⟩,[(0,⟨[],[]⟩)])]⟩
def Ad9:Sig:=.of [J7] [JS] (fun a=>Ai1 N a)
def AjE (N:Nat):Jw 228 (Ad9 N):=J3 (Jz [(296,AdA N)] Anr) Apf Tryz.f228 N (Jv ⟨AjF N,trivial⟩)
def Ai3:Sig:=.of [NL] [J7] (fun a=>y7 N a)
def Ant (N:Nat):Jw 139 (Ai3 N):=J3 (Jz [(233,AlE N)] []) ⟨[],[]⟩ Tryz.f139 N (Jv ⟨Apb N,trivial⟩)
def Abr:List (Nat×Nrm):=[(3,⟨[],[],[],[],[]⟩),(18,⟨[0,1,12,13],[],[],[],[]⟩)]
def AcK:Lk:=⟨[],[(18,⟨[(0,.i),(1,.i),(12,.i),(13,.c x64)],[]⟩,[(0,⟨[],[]⟩)])]⟩
def Rh:Sig:=.of [.cell false (.sl 84 Tq1),.cell false (.sl 84 Tq1)] [JS] (fun a=>L9 N a.1 a.2)
def SG (N:Nat):Jw 171 (Rh N):=J3 (Jz [(89,Vd N)] Abr) AcK Tryz.f171 N (Jv ⟨VI N,trivial⟩)
open Go.Proofs
def AeX:Sig:=.of [.box [(false,.bool)],MP] [J7] (fun a=>YD N a.1 a.2)
def AaC (N:Nat):Jw 314 (AeX N):=J3 (Jz [(218,aB N),(55,Lu N),(58,Ld N)] []) ⟨[],[]⟩ Tryz.f314 N (Jv ⟨jD N,La N,KU N,trivial⟩)
def AbN:Sig:=.of [.box [(false,.bool)],MP] [J7] (fun a=>W9 N a.1 a.2)
def vF (N:Nat):Jw 338 (AbN N):=J3 (Jz [(58,Ld N)] []) ⟨[],[]⟩ Tryz.f338 N (Jv ⟨KU N,trivial⟩)
def Adn:Sig:=.of [TD] [J4,J4] (fun a=>fF N a)
def AiI (N:Nat):Jw 157 (Adn N):=J3 (Jz [(45,MK N),(193,X5 N)] []) ⟨[],[]⟩ Tryz.f157 N (Jv ⟨LV N,XW N,trivial⟩)
def AaU:Sig:=.of [At6,NL] [J4] (fun a=>PR N a.1 a.2)
def rJ (N:Nat):Jw 306 (AaU N):=J3 (Jz [(113,gB N),(165,Uk N)] []) ⟨[],[]⟩ Tryz.f306 N (Jv ⟨eF N,TW N,trivial⟩)
def VP:Sig:=.of [TD] [J7,J4] (fun a=>SK N a)
def Wv (N:Nat):Jw 393 (VP N):=J3 (Jz [(45,MK N),(200,WO N)] []) ⟨[],[]⟩ Tryz.f393 N (Jv ⟨LV N,VV N,trivial⟩)
def pU:Sig:=.of [TD] [J7,J4] (fun a=>Xp N a)
def AdI (N:Nat):Jw 84 (pU N):=J3 (Jz [(45,MK N),(113,gB N)] []) ⟨[],[]⟩ Tryz.f84 N (Jv ⟨LV N,eF N,trivial⟩)
def Agz:List (Nat×Nrm):=[(3,⟨[],[],[],[],[]⟩),(11,⟨[0,12,13,14],[],[],[],[]⟩),(18,⟨[0,12,13,14],[],[],[],[]⟩),(38,⟨[0,5,6,7,12,13,14],[],[],[],[]⟩)]
def AhJ:Lk:=⟨[],[(18,⟨[(0,.i),(12,.i),(13,.i),(14,.c x64)],[]⟩,[(0,⟨[],[]⟩)]),(38,⟨[(0,.i),(5,.i),(6,.i),(7,.c x64),(12,.i),(13,.i),(14,.i)],[]⟩,[(2,⟨[(0,.i),(12,.i),(13,.i),(14,.i)],[]⟩)])]⟩
def nD:Sig:=.of [Sq6,J4] [J4] (fun a=>P5 N a.1 a.2)
def AcT (N:Nat):Jw 222 (nD N):=J3 (Jz [(227,Qg N)] Agz) AhJ Tryz.f222 N (Jv ⟨PT N,trivial⟩)
open Go.Proofs
def zW:List (Nat×Nrm):=[(3,⟨[],[],[],[],[]⟩),(11,⟨[0,9,10,11],[],[],[],[]⟩),(18,⟨[0,9,10,11],[],[],[],[]⟩),(38,⟨[0,3,4,5,9,10,11],[],[],[],[]⟩)]
def Abx:Lk:=⟨[],[(18,⟨[(0,.i),(9,.i),(10,.i),(11,.c x64)],[]⟩,[(0,⟨[],[]⟩)]),(38,⟨[(0,.i),(3,.i),(4,.c AU),(5,.c x64),(9,.i),(10,.i),(11,.i)],[(33792,.box [xs,xs])]⟩,[(2,⟨[(0,.i),(9,.i),(10,.i),(11,.i)],[]⟩)])]⟩
def Zp:Sig:=.of [ApF] [J4] (fun a=>PW N a)
def uB (N:Nat):Jw 223 (Zp N):=J3 (Jz [(227,Qg N)] zW) Abx Tryz.f223 N (Jv ⟨PT N,trivial⟩)
def aQ:Sig:=.of [Ae7,Ae7] [JS] (fun a=>Qz N a.1 a.2)
def vM (N:Nat):Jw 172 (aQ N):=J3 (Jz [(171,Rh N)] []) ⟨[],[]⟩ Tryz.f172 N (Jv ⟨SG N,trivial⟩)
def Aex:List (Nat×Nrm):=[(3,⟨[],[],[],[],[]⟩),(18,⟨[0,1,12,13],[],[],[],[]⟩)]
def Agv:Lk:=⟨[],[(18,⟨[(0,.i),(1,.i),(12,.i),(13,.c x64)],[]⟩,[(0,⟨[],[]⟩)])]⟩
def jL:Sig:=.of [.cell false (.sl 153 Tq2),.cell false (.sl 153 Tq2)] [JS] (fun a=>NG N a.1 a.2)
def Abw (N:Nat):Jw 173 (jL N):=J3 (Jz [(171,Rh N),(89,Vd N)] Aex [] [] [] [28,40,41,53,54,67]) Agv Tryz.f173 N (Jv ⟨SG N,VI N,trivial⟩)
open Go.Proofs
def Ale:Sig:=.of [Zv] [NL] (fun a=>Acy N a)
def Ao9 (N:Nat):Jw 71 (Ale N):=J3 (Jz [(35,Lt N),(22,zI N)] []) ⟨[],[]⟩ Tryz.f71 N (Jv ⟨KZ N,AaW N,trivial⟩)
def Aij:Sig:=.of [Zv] [Sq2] (fun a=>Zg N a)
def AmL (N:Nat):Jw 238 (Aij N):=J3 (Jz [(35,Lt N),(70,fP N)] []) ⟨[],[]⟩ Tryz.f238 N (Jv ⟨KZ N,dU N,trivial⟩)
def AdL:List (Nat×Nrm):=[(3,⟨[],[],[],[],[]⟩),(11,⟨[0,13,14,15],[],[],[],[]⟩),(18,⟨[0,13,14,15],[],[],[],[]⟩),(38,⟨[0,6,13,14,15,25,26,27],[],[],[],[]⟩)]
def AeO:Lk:=⟨[],[(18,⟨[(0,.i),(13,.i),(14,.i),(15,.c x64)],[]⟩,[(0,⟨[],[]⟩)]),(38,⟨[(0,.i),(6,.i),(13,.i),(14,.i),(15,.i),(25,.i),(26,.i),(27,.c x64)],[]⟩,[(2,⟨[(0,.i),(13,.i),(14,.i),(15,.i)],[]⟩)])]⟩
def iF:Sig:=.of [Sq6,J4] [J4] (fun a=>O5 N a.1 a.2)
def Aap (N:Nat):Jw 248 (iF N):=J3 (Jz [(214,TP N)] AdL) AeO Tryz.f248 N (Jv ⟨RD N,trivial⟩)
def pX:List (Nat×Nrm):=[(3,⟨[],[],[],[],[]⟩),(11,⟨[0,10,11,12],[],[],[],[]⟩),(18,⟨[0,10,11,12],[],[],[],[]⟩),(38,⟨[0,4,10,11,12,29,30,31],[],[],[],[]⟩)]
def uS:Lk:=⟨[],[(18,⟨[(0,.i),(10,.i),(11,.i),(12,.c x64)],[]⟩,[(0,⟨[],[]⟩)]),(38,⟨[(0,.i),(4,.c AU),(10,.i),(11,.i),(12,.i),(29,.i),(30,.i),(31,.c x64)],[(33792,.box [xs,xs])]⟩,[(2,⟨[(0,.i),(10,.i),(11,.i),(12,.i)],[]⟩)])]⟩
def XE:Sig:=.of [ApF] [J4] (fun a=>OB N a)
def jW (N:Nat):Jw 249 (XE N):=J3 (Jz [(214,TP N)] pX) uS Tryz.f249 N (Jv ⟨RD N,trivial⟩)
def AdQ:List (Nat×Nrm):=[(17,⟨[0,3,5],[],[],[],[]⟩)]
def AeU:Lk:=⟨[(17,⟨[(0,.c AO),(3,.c AV),(5,.c xs)],[(0,.box [xb]),(33536,.box Bv)]⟩)],[]⟩
def AeV:Sig:=.of [.box [(false,.bool)],MP] [J7] (fun a=>YB N a.1 a.2)
def Aa3 (N:Nat):Jw 311 (AeV N):=J3 (Jz [(53,UJ N),(219,lX N),(52,MB N)] AdQ) AeU Tryz.f311 N (Jv ⟨VF N,AbW N,LH N,trivial⟩)
def VQ:Sig:=.of [.box [(false,.bool)],J7] [J7] (fun a=>Vo N a.1 a.2)
def Wx (N:Nat):Jw 391 (VQ N):=J3 (Jz [(122,WQ N),(55,Lu N),(58,Ld N)] []) ⟨[],[]⟩ Tryz.f391 N (Jv ⟨VW N,La N,KU N,trivial⟩)
def AbM:List (Nat×Nrm):=[(3,⟨[0,5],[],[],[],[]⟩),(14,⟨[0,5,13,14,15],[],[],[],[]⟩)]
def AdR:Lk:=⟨[],[(14,⟨[(0,.c AO),(5,.c (xo 34816)),(13,.c (xo 36096)),(14,.i),(15,.c x64)],[(0,.box [xb]),(34816,.arr 9 false Aq),(36096,.arr 3 false Au)]⟩,[(0,⟨[(0,.c AO),(5,.c (xo 34816))],[(0,.box [xb]),(34816,.arr 9 false Aq)]⟩)])]⟩
def AdS:Sig:=.of [.box [(false,.bool)],MP] [J7] (fun a=>XO N a.1 a.2)
def yP (N:Nat):Jw 326 (AdS N):=J3 (Jz [(119,XY N),(58,Ld N),(52,MB N)] AbM) AdR Tryz.f326 N (Jv ⟨aC N,KU N,LH N,trivial⟩)
open Go.Proofs
def XJ:Sig:=.of [.cell false (.sl 176 Tq4)] [J4] (fun a=>QI N a)
def lH (N:Nat):Jw 262 (XJ N):=J3 (Jz [(351,nC N)] []) ⟨[],[]⟩ Tryz.f262 N (Jv ⟨AcS N,trivial⟩)
def AmP:List (Nat×Nrm):=[(3,⟨[3],[([3],153,Tq2,1008192)],[],[(1000000,1008192)],[]⟩),(14,⟨[0,3,4],[([3],153,Tq2,1000000)],[],[(41216,1000000)],[]⟩),(33,⟨[0,3,4,5],[([3],153,Tq2,1004096)],[(some 34048,3,Aw)],[(1000000,1004096)],[]⟩)]
def AoA:Lk:=⟨[(33,⟨[(0,.c AO),(3,.c (xo 1004096)),(4,.i),(5,.c AX)],[(0,.box BG),(34048,.box [(xo 36608),x64,xb,Bo]),(36608,.arr 84 false Tq1),(1004096,.arr 153 false Tq2)]⟩)],[(14,⟨[(0,.c AO),(3,.c (xo 1000000)),(4,.c x64)],[(0,.box BG),(1000000,.arr 153 false Tq2)]⟩,[(0,⟨[(3,.c (xo 1008192))],[(0,.box BG),(1008192,.arr 153 false Tq2)]⟩)])]⟩
def Adv:Sig:=.of [Zv] [.cell false (.sl 153 Tq2)] (fun a=>Ye N a)
def Ajr (N:Nat):Jw 38 (Adv N):=J3 (Jz [(35,Lt N),(37,dS N),(29,YJ N)] AmP) AoA Tryz.f38 N (Jv ⟨KZ N,mM N,bQ N,trivial⟩)
def Ajp:List (Nat×Nrm):=[(3,⟨[0,2,3],[],[],[(33637,1004096),(1000000,1004096)],[]⟩),(11,⟨[0,2,3],[],[],[(33638,1012288),(1008192,1012288)],[]⟩),(14,⟨[0,2,3,4],[],[],[(33637,1000000),(37376,1000000)],[]⟩),(30,⟨[0,2,3,5],[],[],[(33638,1008192),(40704,1008192)],[]⟩)]
def Alf:Lk:=⟨[],[(14,⟨[(0,.c AO),(2,.c AL),(3,.c AV),(4,.c x64)],[(0,.box BG),(33280,.box BM),(33281,.JZ 84 false Tq1),(33282,.JZ 84 false Tq1),(33536,.box [(xo 1000000),(xo 33638)]),(33638,.JZ 84 false Tq1),(1000000,.arr 84 false Tq1)]⟩,[(0,⟨[(0,.c AO),(2,.c AL),(3,.c AV)],[(0,.box BG),(33280,.box BM),(33281,.JZ 84 false Tq1),(33282,.JZ 84 false Tq1),(33536,.box [(xo 1004096),(xo 33638)]),(33638,.JZ 84 false Tq1),(1004096,.arr 84 false Tq1)]⟩)]),(30,⟨[(0,.c AO),(2,.c AL),(3,.c AV),(5,.c x64)],[(0,.box BG),(33280,.box BM),(33281,.JZ 84 false Tq1),(33282,.JZ 84 false Tq1),(33536,.box [(xo 1004096),(xo 1008192)]),(1004096,.arr 84 false Tq1),(1008192,.arr 84 false Tq1)]⟩,[(2,⟨[(0,.c AO),(2,.c AL),(3,.c AV)],[(0,.box BG),(33280,.box BM),(33281,.JZ 84 false Tq1),(33282,.JZ 84 false Tq1),(33536,.box [(xo 1004096),(xo 1012288)]),(1004096,.arr 84 false Tq1),(1012288,.arr 84 false Tq1)]⟩)])]⟩
def wW:Sig:=.of [Zv] [Ae7] (fun a=>Yx N a)
def AfF (N:Nat):Jw 147 (wW N):=J3 (Jz [(35,Lt N),(238,Aij N)] Ajp) Alf Tryz.f147 N (Jv ⟨KZ N,AmL N,trivial⟩)
def uU:List (Nat×Nrm):=[(3,⟨[],[],[],[],[]⟩),(10,⟨[0,10,11,12],[],[],[],[]⟩),(11,⟨[0,4,10,11,12],[],[],[],[]⟩),(42,⟨[0,4,10,11,12,30,31,32],[],[],[],[]⟩)]
def yI:Lk:=⟨[],[(10,⟨[(0,.i),(10,.i),(11,.i),(12,.c x64)],[]⟩,[(0,⟨[],[]⟩)]),(42,⟨[(0,.i),(4,.c AU),(10,.i),(11,.i),(12,.i),(30,.i),(31,.i),(32,.c x64)],[(33792,.box [xs,xb,xs])]⟩,[(2,⟨[(0,.i),(4,.c AU),(10,.i),(11,.i),(12,.i)],[(33792,.box [xs,xb,xs])]⟩)])]⟩
def Yc:Sig:=.of [.cell false (.sl 176 Tq4)] [J4] (fun a=>UC N a)
def nV (N:Nat):Jw 253 (Yc N):=J3 (Jz [(214,TP N),(308,dB N),(215,gQ N)] uU) yI Tryz.f253 N (Jv ⟨RD N,lV N,fC N,trivial⟩)
def rH:Sig:=.of [NL] [J7,J4] (fun a=>AaT N a)
def Aei (N:Nat):Jw 87 (rH N):=J3 (Jz [(165,Uk N),(167,mJ N),(76,eH N),(123,Oy N),(54,Sv N)] []) ⟨[],[]⟩ Tryz.f87 N (Jv ⟨TW N,Acw N,mQ N,Nr N,TM N,trivial⟩)
def yT:List (Nat×Nrm):=[(3,⟨[0,5],[([5],9,Aq,1004096)],[],[(1000000,1004096)],[]⟩),(14,⟨[0,5,9,10,11],[([5],9,Aq,1000000)],[],[(37888,1000000)],[]⟩)]
def AaA:Lk:=⟨[],[(14,⟨[(0,.c AO),(5,.c (xo 1000000)),(9,.i),(10,.i),(11,.c x64)],[(0,.box [xb]),(1000000,.arr 9 false Aq)]⟩,[(0,⟨[(0,.c AO),(5,.c (xo 1004096))],[(0,.box [xb]),(1004096,.arr 9 false Aq)]⟩)])]⟩
def AaB:Sig:=.of [.box [(false,.bool)],MP] [J7] (fun a=>VC N a.1 a.2)
def qK (N:Nat):Jw 317 (AaB N):=J3 (Jz [(391,VQ N),(52,MB N)] yT) AaA Tryz.f317 N (Jv ⟨Wx N,LH N,trivial⟩)
def yS:List (Nat×Nrm):=[(3,⟨[0,5],[([5],9,Aq,1004096)],[],[(1000000,1004096)],[]⟩),(14,⟨[0,5,9,10,11],[([5],9,Aq,1000000)],[],[(38656,1000000)],[]⟩)]
def Aa8:Lk:=⟨[],[(14,⟨[(0,.c AO),(5,.c (xo 1000000)),(9,.i),(10,.i),(11,.c x64)],[(0,.box [xb]),(1000000,.arr 9 false Aq)]⟩,[(0,⟨[(0,.c AO),(5,.c (xo 1004096))],[(0,.box [xb]),(1004096,.arr 9 false Aq)]⟩)])]⟩
def Aa9:Sig:=.of [.box [(false,.bool)],MP] [J7] (fun a=>VB N a.1 a.2)
def qJ (N:Nat):Jw 320 (Aa9 N):=J3 (Jz [(391,VQ N),(52,MB N)] yS) Aa8 Tryz.f320 N (Jv ⟨Wx N,LH N,trivial⟩)
open Go.Proofs
def yQ:List (Nat×Nrm):=[(3,⟨[0,5],[([5],9,Aq,1004096)],[],[(1000000,1004096)],[]⟩),(14,⟨[0,5,9,10,11],[([5],9,Aq,1000000)],[],[(39936,1000000)],[]⟩)]
def Aa5:Lk:=⟨[],[(14,⟨[(0,.c AO),(5,.c (xo 1000000)),(9,.i),(10,.i),(11,.c x64)],[(0,.box [xb]),(1000000,.arr 9 false Aq)]⟩,[(0,⟨[(0,.c AO),(5,.c (xo 1004096))],[(0,.box [xb]),(1004096,.arr 9 false Aq)]⟩)])]⟩
def Aa6:Sig:=.of [.box [(false,.bool)],MP] [J7] (fun a=>VA N a.1 a.2)
def qI (N:Nat):Jw 323 (Aa6 N):=J3 (Jz [(391,VQ N),(52,MB N)] yQ) Aa5 Tryz.f323 N (Jv ⟨Wx N,LH N,trivial⟩)
def Y7:Sig:=.of [TD] [J4] (fun a=>PY N a)
def bK (N:Nat):Jw 83 (Y7 N):=J3 (Jz [(105,UI N),(112,RY N)] []) ⟨[],[]⟩ Tryz.f83 N (Jv ⟨VD N,Uw N,trivial⟩)
def wF:Sig:=.of [TD] [J4] (fun a=>Yt N a)
def AeN (N:Nat):Jw 156 (wF N):=J3 (Jz [(45,MK N),(73,NY N),(193,X5 N)] []) ⟨[],[]⟩ Tryz.f156 N (Jv ⟨LV N,Qv N,XW N,trivial⟩)
def kQ:Sig:=.of [At6,NL] [J4] (fun a=>NF N a.1 a.2)
def bJ (N:Nat):Jw 305 (kQ N):=J3 (Jz [(112,RY N)] []) ⟨[],[]⟩ Tryz.f305 N (Jv ⟨Uw N,trivial⟩)
def AeR:Sig:=.of [J7,XL] [J4] (fun a=>RP N a.1 a.2)
def Aa0 (N:Nat):Jw 315 (AeR N):=J3 (Jz [(73,NY N),(357,sK N)] []) ⟨[],[]⟩ Tryz.f315 N (Jv ⟨Qv N,xG N,trivial⟩)
def AbI:Sig:=.of [J7,XL] [J4] (fun a=>Qr N a.1 a.2)
def uV (N:Nat):Jw 330 (AbI N):=J3 (Jz [(73,NY N),(390,UE N)] []) ⟨[],[]⟩ Tryz.f330 N (Jv ⟨Qv N,V8 N,trivial⟩)
def AbK:Sig:=.of [J7,XL] [J4] (fun a=>Qs N a.1 a.2)
def uZ (N:Nat):Jw 339 (AbK N):=J3 (Jz [(73,NY N),(399,Y8 N)] []) ⟨[],[]⟩ Tryz.f339 N (Jv ⟨Qv N,bM N,trivial⟩)
def mZ:Sig:=.of [NL] [J7,J4] (fun a=>VY N a)
def AcO (N:Nat):Jw 65 (mZ N):=J3 (Jz [(133,YQ N),(69,XZ N),(139,Ai3 N),(43,LM N)] []) ⟨[],[]⟩ Tryz.f65 N (Jv ⟨bU N,aK N,Ant N,Lc N,trivial⟩)
open Go.Proofs
def oH:List (Nat×Nrm):=[(3,⟨[5],[],[],[],[]⟩),(26,⟨[5,17,18,19],[],[],[],[]⟩),(45,⟨[5,7,8,17,18,19],[],[],[],[]⟩)]
def tY:Lk:=⟨[(45,⟨[(5,.i),(7,.c (.c (.ptr 34560 0))),(8,.c xs),(17,.i),(18,.i),(19,.i)],[(34560,.box [xs,xb,xs])]⟩)],[(26,⟨[(5,.c xs),(17,.i),(18,.i),(19,.c x64)],[]⟩,[(0,⟨[(5,.c xs)],[]⟩)])]⟩
def WY:Sig:=.of [.cell false (.sl 176 Tq4)] [J7,J4] (fun a=>Qn N a)
def jI (N:Nat):Jw 186 (WY N):=J3 (Jz [(262,XJ N),(263,WU N),(43,LM N),(67,TR N),(142,Ym N)] oH) tY Tryz.f186 N (Jv ⟨lH N,Zm N,Lc N,RG N,X8 N,trivial⟩)
def AqA:List (Nat×Nrm):=[(3,⟨[2,3],[],[],[],[]⟩),(14,⟨[0,2,3,4],[],[],[],[]⟩),(41,⟨[0,2,3,4,13,27],[],[],[],[]⟩)]
def Asn:Lk:=⟨[(41,⟨[(0,.c AO),(2,.c AL),(3,.c AV),(4,.i),(13,.i),(27,.c xb)],[(0,.box BG),(33280,.box Bz),(33285,.JZ 9 false Aq),(33286,.JZ 9 false Aq),(33287,.JZ 267 false (.str Aq)),(33291,.JZ 84 false Tq1),(33293,.JZ 84 false Tq1),(33294,.JZ 84 false Tq1),(33297,.JZ 153 false Tq2),(33298,.JZ 153 false Tq2),(33299,.JZ 176 false Tq4),(33536,.box Bv)]⟩)],[(14,⟨[(0,.c AO),(2,.c AL),(3,.c AV),(4,.c x64)],[(0,.box BG),(33280,.box Bz),(33285,.JZ 9 false Aq),(33286,.JZ 9 false Aq),(33287,.JZ 267 false (.str Aq)),(33291,.JZ 84 false Tq1),(33293,.JZ 84 false Tq1),(33294,.JZ 84 false Tq1),(33297,.JZ 153 false Tq2),(33298,.JZ 153 false Tq2),(33299,.JZ 176 false Tq4),(33536,.box Bv)]⟩,[(0,⟨[(2,.c AL),(3,.c AV)],[(0,.box BG),(33280,.box Bz),(33285,.JZ 9 false Aq),(33286,.JZ 9 false Aq),(33287,.JZ 267 false (.str Aq)),(33291,.JZ 84 false Tq1),(33293,.JZ 84 false Tq1),(33294,.JZ 84 false Tq1),(33297,.JZ 153 false Tq2),(33298,.JZ 153 false Tq2),(33299,.JZ 176 false Tq4),(33536,.box Bv)]⟩)])]⟩
def Aik:Sig:=.of [Zv] [MP] (fun a=>wV N a)
def AmM (N:Nat):Jw 72 (Aik N):=J3 (Jz [(144,Agu N),(35,Lt N),(145,Aim N),(146,wX N),(37,dS N),(147,wW N),(38,Adv N)] AqA) Asn Tryz.f72 N (Jv ⟨AlG N,KZ N,AmO N,AfG N,mM N,AfF N,Ajr N,trivial⟩)
def AhV:Sig:=.of [TD] [J4,J4] (fun a=>iE N a)
def Amj (N:Nat):Jw 243 (AhV N):=J3 (Jz [(105,UI N),(195,Ado N)] []) ⟨[],[]⟩ Tryz.f243 N (Jv ⟨VD N,AiX N,trivial⟩)
def AnG (N n:Nat):Sig:=.of [At6,NL] [.cell false (.int .i64)] (oO N n)
def Aui (N:Nat):Xi Tryz.prog (AnG N):=YY (J6:=[At6,NL]) (JJ:=[.cell false (.int .i64)]) (l:=[(305,fun a=>NF N a.1 a.2),(306,fun a=>PR N a.1 a.2)]) ⟨bJ N,rJ N,trivial⟩
def AeP:Sig:=.of [J7,XL] [J4] (fun a=>RJ N a.1 a.2)
def Aat (N:Nat):Jw 312 (AeP N):=J3 (Jz [(356,lW N),(109,PZ N),(390,UE N),(49,MI N)] [] [(44,UH N)]) ⟨[],[]⟩ Tryz.f312 N (Jv ⟨AbV N,PQ N,V8 N,LU N,trivial⟩ ⟨WA N,trivial⟩)
def Ru (N:Nat):Alt:=.of [.cell false .str] [TD,.cell false (.int .i64)] [.cell false .ptr,.cell false (.int .i64)] (fun a=>RQ N a)
def UD (N:Nat):Spec Tryz.prog 392 (Ru N).1/\Spec Tryz.prog 392 (Ru N).2.1:=Uy (C:=ctx Tryz.prog [(196,P6 N)] [] [(44,UH N)]) (L:=⟨[],[]⟩) (fn:=Tryz.f392) (N:=N) (Jv ⟨Pq N,trivial⟩ ⟨WA N,trivial⟩) (by kernel_rfl) (by kernel_rfl) (fun a=>by kernel_rfl)
def yK:Sig:=.of [J7,XL] [J4] (fun a=>Pm N a.1 a.2)
def nX (N:Nat):Jw 342 (yK N):=J3 (Jz [(45,MK N),(399,Y8 N),(49,MI N)] [] [(44,UH N)]) ⟨[],[]⟩ Tryz.f342 N (Jv ⟨LV N,bM N,LU N,trivial⟩ ⟨WA N,trivial⟩)
open Go.Proofs
def AdP:List (Nat×Nrm):=[(3,⟨[],[],[],[(517,1012336),(518,1012320),(519,1012304),(531,1012288),(1000000,1012288),(1000016,1012304),(1000032,1012320),(1000048,1012336)],[]⟩),(11,⟨[1,2,7,9,11],[([11],9,Aq,1008192)],[],[(517,1008256),(518,1008240),(519,1008224),(531,1008208),(1004096,1008192),(1004112,1008208),(1004128,1008224),(1004144,1008240),(1004160,1008256)],[]⟩),(18,⟨[1,2,7],[],[],[(517,1000048),(518,1000032),(519,1000016),(531,1000000),(617,1000048),(618,1000032),(619,1000016),(631,1000000)],[]⟩),(38,⟨[1,2,7,9,11],[([11],9,Aq,1004096)],[],[(517,1004160),(518,1004144),(519,1004128),(531,1004112),(45312,1004096),(1000000,1004112),(1000016,1004128),(1000032,1004144),(1000048,1004160)],[]⟩)]
def AeT:Lk:=⟨[],[(18,⟨[(1,.i),(2,.c (.c (.clo 397 512))),(7,.c AY)],[(512,.box BB),(37120,.box [Bl]),(1000000,.arr 176 true Tq4),(1000016,.arr 267 true (.str Aq)),(1000032,.arr 9 true Aq),(1000048,.arr 9 true Aq)]⟩,[(0,⟨[],[(512,.box BC),(1012288,.arr 176 true Tq4),(1012304,.arr 267 true (.str Aq)),(1012320,.arr 9 true Aq),(1012336,.arr 9 true Aq)]⟩)]),(38,⟨[(1,.i),(2,.c (.c (.clo 397 512))),(7,.c AY),(9,.c Bd),(11,.c (xo 1004096))],[(512,.box BD),(37120,.box [Bl]),(39936,.box [Bl]),(1004096,.arr 9 false Aq),(1004112,.arr 176 true Tq4),(1004128,.arr 267 true (.str Aq)),(1004144,.arr 9 true Aq),(1004160,.arr 9 true Aq)]⟩,[(2,⟨[(1,.i),(2,.c (.c (.clo 397 512))),(7,.c AY),(9,.c Bd),(11,.c (xo 1008192))],[(512,.box BF),(37120,.box [Bl]),(39936,.box [Bl]),(1008192,.arr 9 false Aq),(1008208,.arr 176 true Tq4),(1008224,.arr 267 true (.str Aq)),(1008240,.arr 9 true Aq),(1008256,.arr 9 true Aq)]⟩)])]⟩
def iI:Sig:=.of [J7,J4,A3b] [J4] (fun a=>YA N a.1 a.2.1 a.2.2)
def Aa2 (N:Nat):Spec Tryz.prog 394 (iI N):=Qq (C:=ctx Tryz.prog [(196,P6 N),(393,VP N),(49,MI N)] AdP [(392,Ru N),(197,Oa N)] [(55,ApW N)]) (L:=AeT) (fn:=Tryz.f394) (N:=N+1) (Jv ⟨Pq N,Wv N,LU N,trivial⟩ ⟨UD N,QC N,trivial⟩ ⟨Awb N,trivial⟩)
def AbJ:List (Nat×Nrm):=[(22,⟨[5,25,26,27],[],[],[],[]⟩)]
def AdM:Sig:=.of [J7,XL] [J4] (fun a=>QP N a.1 a.2)
def yL (N:Nat):Spec Tryz.prog 327 (AdM N):=Qq (C:=ctx Tryz.prog [(109,PZ N),(390,UE N),(49,MI N)] AbJ [(392,Ru N)]) (L:=⟨[],[]⟩) (fn:=Tryz.f327) (N:=N+9) (Jv ⟨PQ N,V8 N,LU N,trivial⟩ ⟨UD N,trivial⟩)
def zS:List (Nat×Nrm):=[(3,⟨[],[],[],[],[]⟩),(26,⟨[31,32,33],[],[],[],[]⟩)]
def Abq:Lk:=⟨[],[(26,⟨[(31,.c (xo 40704)),(32,.i),(33,.c x64)],[(40704,.arr 84 false Tq1)]⟩,[(0,⟨[],[]⟩)])]⟩
def Un:Sig:=.of [Ae7] [J4] (fun a=>PU N a)
def WV (N:Nat):Jw 225 (Un N):=J3 (Jz [(294,QY N)] zS) Abq Tryz.f225 N (Jv ⟨SE N,trivial⟩)
open Go.Proofs
def Vq:Sig:=.of [Sq2,JS] [J4] (fun a=>Ns N a.1 a.2)
def UL (N:Nat):Jw 202 (Vq N):=J3 (Jz [(279,AkD N),(114,SL N),(280,iL N)] []) ⟨[],[]⟩ Tryz.f202 N (Jv ⟨Ao3 N,RS N,AaN N,trivial⟩)
def Aky:List (Nat×Nrm):=[(3,⟨[5],[([5],9,Aq,1012288)],[],[(1000000,1012288)],[]⟩),(11,⟨[5,8,21,22,23],[([8],9,Aq,1008192),([5],9,Aq,1008208)],[],[(1004096,1008192),(1004112,1008208)],[]⟩),(26,⟨[5,21,22,23],[([5],9,Aq,1000000)],[],[(47872,1000000)],[]⟩),(42,⟨[5,8,21,22,23,27,28,29],[([8],9,Aq,1004096),([5],9,Aq,1004112)],[],[(44032,1004096),(1000000,1004112)],[]⟩)]
def Am0:Lk:=⟨[],[(26,⟨[(5,.c (xo 1000000)),(21,.i),(22,.i),(23,.c x64)],[(1000000,.arr 9 false Aq)]⟩,[(0,⟨[(5,.c (xo 1012288))],[(1012288,.arr 9 false Aq)]⟩)]),(42,⟨[(5,.c (xo 1004112)),(8,.c (xo 1004096)),(21,.i),(22,.i),(23,.i),(27,.i),(28,.i),(29,.c x64)],[(1004096,.arr 9 false Aq),(1004112,.arr 9 false Aq)]⟩,[(2,⟨[(5,.c (xo 1008208)),(8,.c (xo 1008192)),(21,.i),(22,.i),(23,.i)],[(1008192,.arr 9 false Aq),(1008208,.arr 9 false Aq)]⟩)])]⟩
def dN:Sig:=.of [Sq1] [J7,J4] (fun a=>Ui N a)
def lZ (N:Nat):Jw 56 (dN N):=J3 (Jz [(114,SL N),(124,XH N),(125,Aad N),(123,Oy N)] Aky) Am0 Tryz.f56 N (Jv ⟨RS N,kJ N,An2 N,Nr N,trivial⟩)
def Akx:List (Nat×Nrm):=[(3,⟨[2,4,8],[],[],[(34817,1004096),(1000000,1004096)],[]⟩),(50,⟨[2,4,8,37,38,39],[],[],[(34817,1000000),(47104,1000000)],[]⟩)]
def Amz:Lk:=⟨[],[(50,⟨[(2,.c AL),(4,.c AU),(8,.c AZ),(37,.i),(38,.i),(39,.c x64)],[(33280,.box BP),(33281,.JZ 144 false Aw),(33792,.box [(xo 33793)]),(33793,.JZ 144 false Aw),(34816,.box [(xo 1000000)]),(1000000,.arr 144 false Aw)]⟩,[(0,⟨[(2,.c AL),(4,.c AU),(8,.c AZ)],[(33280,.box BP),(33281,.JZ 144 false Aw),(33792,.box [(xo 33793)]),(33793,.JZ 144 false Aw),(34816,.box [(xo 1004096)]),(1004096,.arr 144 false Aw)]⟩)])]⟩
def dM:Sig:=.of [J7] [Sq1,J4] (fun a=>WB N a)
def lY (N:Nat):Jw 107 (dM N):=J3 (Jz [(148,Xg N),(192,Ox N),(194,Yd N),(114,SL N)] Akx) Amz Tryz.f107 N (Jv ⟨Ut N,Nq N,nZ N,RS N,trivial⟩)
def uD (N:Nat):Alt:=.of [.cell false .str,.cell false (.int .i64)] [AiA,.cell false (.int .i64)] [.cell false .ptr,.cell false (.int .i64)] (fun a=>aY N a.1 a.2)
def Anx (N:Nat):Spec Tryz.prog 21 (uD N).1/\Spec Tryz.prog 21 (uD N).2.1:=Uy (C:=ctx Tryz.prog [] [] [(78,zZ N)]) (L:=⟨[],[]⟩) (fn:=Tryz.f21) (N:=N) (Jv trivial ⟨Apg N,trivial⟩) (by kernel_rfl) (by kernel_rfl) (fun a=>by kernel_rfl)
def Aen:List (Nat×Nrm):=[(3,⟨[0,2],[([2],9,Aq,1004096)],[],[(1000000,1004096)],[]⟩),(11,⟨[],[],[],[(44032,1020480),(1008192,1020480)],[]⟩),(14,⟨[0,2,3],[([2],9,Aq,1000000)],[],[(43264,1000000)],[]⟩),(19,⟨[0,6,7],[([7],9,Aq,1016384)],[],[(44032,1016400),(1012288,1016384),(1012304,1016400)],[]⟩),(38,⟨[0,2,6],[],[],[(44032,1008192),(56576,1008192),(1016384,1004096)],[]⟩),(54,⟨[0,2,6,7,8],[([7],9,Aq,1012288)],[],[(44032,1012304),(54016,1012288),(1008192,1012304)],[]⟩)]
def AfM:Lk:=⟨[],[(14,⟨[(0,.c AO),(2,.c (xo 1000000)),(3,.c x64)],[(0,.box BK),(1000000,.arr 9 false Aq)]⟩,[(0,⟨[(0,.c AO),(2,.c (xo 1004096))],[(0,.box BK),(1004096,.arr 9 false Aq)]⟩)]),(38,⟨[(0,.c AO),(2,.c (xo 1004096)),(6,.c x64)],[(0,.box [(xo 1008192),xs,xs,x64]),(1004096,.arr 9 true Aq),(1008192,.arr 39 false (.sl 9 Aq .nil))]⟩,[(2,⟨[],[(0,.box [(xo 1020480),xs,xs,x64]),(1020480,.arr 39 false (.sl 9 Aq .nil))]⟩)]),(54,⟨[(0,.c AO),(2,.c (xo 1004096)),(6,.i),(7,.c (xo 1012288)),(8,.c x64)],[(0,.box [(xo 1012304),xs,xs,x64]),(1004096,.arr 9 true Aq),(1012288,.arr 9 false Aq),(1012304,.arr 39 false (.sl 9 Aq .nil))]⟩,[(4,⟨[(0,.c AO),(6,.i),(7,.c (xo 1016384))],[(0,.box [(xo 1016400),xs,xs,x64]),(1016384,.arr 9 false Aq),(1016400,.arr 39 false (.sl 9 Aq .nil))]⟩)])]⟩
def iU:Sig:=.of [AlX] [] (fun a=>O8 N a)
def Abb (N:Nat):Jw 180 (iU N):=J3 (Jz [(259,AfT N),(178,ZQ N)] Aen) AfM Tryz.f180 N (Jv ⟨Alr N,iY N,trivial⟩)
def Aju:List (Nat×Nrm):=[(3,⟨[3,10],[],[],[],[]⟩),(58,⟨[3,10,12,13,14],[],[],[],[]⟩),(61,⟨[3,10,12,13,14],[],[],[],[]⟩)]
def Ali:Lk:=⟨[(61,⟨[(3,.c AV),(10,.c xs),(12,.i),(13,.i),(14,.i)],[(33536,.box BU)]⟩)],[(58,⟨[(3,.c AV),(10,.c xs),(12,.i),(13,.c x64),(14,.c x64)],[(33536,.box BU)]⟩,[(0,⟨[(3,.c AV),(10,.c xs)],[(33536,.box BU)]⟩)])]⟩
def wY:Sig:=.of [NL,J7,J7] [J4] (fun a=>Yz N a.1 a.2.1 a.2.2)
def AfN (N:Nat):Jw 91 (wY N):=J3 (Jz [(165,Uk N),(175,Adw N),(177,ZP N),(176,Adz N),(178,ZQ N)] Aju) Ali Tryz.f91 N (Jv ⟨TW N,Ajt N,iW N,Ajz N,iY N,trivial⟩)
open Go.Proofs
def Uo:Sig:=.of [Sq2,JS] [J7,J4] (fun a=>MF N a.1 a.2)
def WW (N:Nat):Jw 298 (Uo N):=J3 (Jz [(294,QY N),(63,WX N),(43,LM N)] []) ⟨[],[]⟩ Tryz.f298 N (Jv ⟨SE N,Zn N,Lc N,trivial⟩)
def y8:Sig:=.of [J4,.cell false (.sl 176 Tq4)] [J7,J4] (fun a=>Y2 N a.1 a.2)
def Ag1 (N:Nat):Jw 100 (y8 N):=J3 (Jz [(186,WY N),(67,TR N)] []) ⟨[],[]⟩ Tryz.f100 N (Jv ⟨jI N,RG N,trivial⟩)
def Aq9:List (Nat×Nrm):=[(17,⟨[2,3],[],[],[],[]⟩)]
def Asm:Lk:=⟨[(17,⟨[(2,.c AL),(3,.c AV)],[(0,.box BG),(33280,.box [AB,AB,AA,(xo 33284),(xo 33285),AA,AA,AA,AB,AB,AQ,AQ,AA,AA,(xo 33295),(xo 33296),(xo 33297),AA,AA,AA,(xo 33301),AQ,(xo 33303),(xo 33304),AB,AB,(xo 33307),(xo 33308),(xo 33309),AB]),(33284,.JZ 144 false Aw),(33285,.JZ 144 false Aw),(33295,.JZ 9 false Aq),(33296,.JZ 9 false Aq),(33297,.JZ 267 false (.str Aq)),(33301,.JZ 84 false Tq1),(33303,.JZ 84 false Tq1),(33304,.JZ 84 false Tq1),(33307,.JZ 153 false Tq2),(33308,.JZ 153 false Tq2),(33309,.JZ 176 false Tq4),(33536,.box [AB,AB,x64,Bo,Bo,x64,x64,x64,xs,xs,xb,xb,x64,x64,Bh,Bh,(xl (.str Aq)),x64,x64,x64,Be,xb,Be,Be,xs,xs,Bg,Bg,Bi,AB])]⟩)],[]⟩
def zH:Sig:=.of [Zv] [AbA] (fun a=>Rl N a)
def AaV (N:Nat):Jw 18 (zH N):=J3 (Jz [(35,Lt N),(29,YJ N),(70,fP N),(36,Ail N),(71,Ale N),(72,Aik N)] Aq9) Asm Tryz.f18 N (Jv ⟨KZ N,bQ N,dU N,AmN N,Ao9 N,AmM N,trivial⟩)
def wE:Sig:=.of [TD] [J4,J4,J4] (fun a=>Yr N a)
def AeM (N:Nat):Jw 159 (wE N):=J3 (Jz [(243,AhV N),(49,MI N)] [] [(197,Oa N)]) ⟨[],[]⟩ Tryz.f159 N (Jv ⟨Amj N,LU N,trivial⟩ ⟨QC N,trivial⟩)
def Ah8:List (Nat×Nrm):=[(3,⟨[2,4,7,8],[],[],[],[]⟩),(50,⟨[2,4,7,8,35,36,37],[],[],[],[]⟩)]
def Ajk:Lk:=⟨[],[(50,⟨[(2,.c AL),(4,.c AU),(7,.c Bl),(8,.c AZ),(35,.c (xo 41728)),(36,.i),(37,.c x64)],[(33280,.box BH),(33792,.box BH),(34816,.box BU),(41728,.arr 333 false (.fn .nil))]⟩,[(0,⟨[(2,.c AL),(4,.c AU),(7,.c Bl),(8,.c AZ)],[(33280,.box BH),(33792,.box BH),(34816,.box BU)]⟩)])]⟩
def rG:Sig:=.of [J7] [NL,J4] (fun a=>Xz N a)
def Aeh (N:Nat):Jw 244 (rG N):=J3 (Jz [(148,Xg N),(192,Ox N)] Ah8 [] [(45,AnG N)]) Ajk Tryz.f244 N (Jv ⟨Ut N,Nq N,trivial⟩ trivial ⟨Aui N,trivial⟩)
def yN:List (Nat×Nrm):=[(3,⟨[6],[],[],[(261,1004096),(1000000,1004096)],[]⟩),(10,⟨[1,5,6],[],[],[(261,1000000),(40960,1000000)],[]⟩)]
def Aay:Lk:=⟨[],[(10,⟨[(1,.c (.c (.ptr 256 0))),(5,.c (.c (.ptr 35328 0))),(6,.c x64)],[(256,.box [xb,xb,x64,x64,(xo 1000000),(xo 262),(xo 263),x64,x64,x64,Be,xb,Be,Be,xs,xs,Bg,Bg,(xo 275)]),(262,.arr 9 true Aq),(263,.arr 267 true (.str Aq)),(275,.arr 176 true Tq4),(35328,.box [Bl]),(1000000,.arr 9 true Aq)]⟩,[(0,⟨[(6,.c x64)],[(256,.box [xb,xb,x64,x64,(xo 1004096),(xo 262),(xo 263),x64,x64,x64,Be,xb,Be,Be,xs,xs,Bg,Bg,(xo 275)]),(262,.arr 9 true Aq),(263,.arr 267 true (.str Aq)),(275,.arr 176 true Tq4),(1004096,.arr 9 true Aq)]⟩)])]⟩
def Aaz:Sig:=.of [J7,XL] [J4] (fun a=>PO N a.1 a.2)
def qF (N:Nat):Spec Tryz.prog 318 (Aaz N):=Qq (C:=ctx Tryz.prog [(196,P6 N),(393,VP N)] yN [(392,Ru N)]) (L:=Aay) (fn:=Tryz.f318) (N:=N+1) (Jv ⟨Pq N,Wv N,trivial⟩ ⟨UD N,trivial⟩)
def AdO:List (Nat×Nrm):=[(3,⟨[],[],[],[(517,1012336),(518,1012320),(519,1012304),(531,1012288),(1000000,1012288),(1000016,1012304),(1000032,1012320),(1000048,1012336)],[]⟩),(11,⟨[1,2,7,9,11],[([11],9,Aq,1008192)],[],[(517,1008256),(518,1008240),(519,1008224),(531,1008208),(1004096,1008192),(1004112,1008208),(1004128,1008224),(1004144,1008240),(1004160,1008256)],[]⟩),(18,⟨[1,2,7],[],[],[(517,1000048),(518,1000032),(519,1000016),(531,1000000),(617,1000048),(618,1000032),(619,1000016),(631,1000000)],[]⟩),(38,⟨[1,2,7,9,11],[([11],9,Aq,1004096)],[],[(517,1004160),(518,1004144),(519,1004128),(531,1004112),(45312,1004096),(1000000,1004112),(1000016,1004128),(1000032,1004144),(1000048,1004160)],[]⟩)]
def AeS:Lk:=⟨[],[(18,⟨[(1,.i),(2,.c (.c (.clo 396 512))),(7,.c AY)],[(512,.box BB),(37120,.box [Bl]),(1000000,.arr 176 true Tq4),(1000016,.arr 267 true (.str Aq)),(1000032,.arr 9 true Aq),(1000048,.arr 9 true Aq)]⟩,[(0,⟨[],[(512,.box BC),(1012288,.arr 176 true Tq4),(1012304,.arr 267 true (.str Aq)),(1012320,.arr 9 true Aq),(1012336,.arr 9 true Aq)]⟩)]),(38,⟨[(1,.i),(2,.c (.c (.clo 396 512))),(7,.c AY),(9,.c Bd),(11,.c (xo 1004096))],[(512,.box BD),(37120,.box [Bl]),(39936,.box [Bl]),(1004096,.arr 9 false Aq),(1004112,.arr 176 true Tq4),(1004128,.arr 267 true (.str Aq)),(1004144,.arr 9 true Aq),(1004160,.arr 9 true Aq)]⟩,[(2,⟨[(1,.i),(2,.c (.c (.clo 396 512))),(7,.c AY),(9,.c Bd),(11,.c (xo 1008192))],[(512,.box BF),(37120,.box [Bl]),(39936,.box [Bl]),(1008192,.arr 9 false Aq),(1008208,.arr 176 true Tq4),(1008224,.arr 267 true (.str Aq)),(1008240,.arr 9 true Aq),(1008256,.arr 9 true Aq)]⟩)])]⟩
def iH:Sig:=.of [J7,J4,A3a] [J4] (fun a=>Y9 N a.1 a.2.1 a.2.2)
def Aa1 (N:Nat):Spec Tryz.prog 394 (iH N):=Qq (C:=ctx Tryz.prog [(196,P6 N),(393,VP N),(49,MI N)] AdO [(392,Ru N),(197,Oa N)] [(55,ApV N)]) (L:=AeS) (fn:=Tryz.f394) (N:=N+1) (Jv ⟨Pq N,Wv N,LU N,trivial⟩ ⟨UD N,QC N,trivial⟩ ⟨AvZ N,trivial⟩)
open Go.Proofs
def AcN:List (Nat×Nrm):=[(3,⟨[],[],[],[],[]⟩),(18,⟨[10,11,12],[],[],[],[]⟩)]
def Aeu:Lk:=⟨[],[(18,⟨[(10,.i),(11,.i),(12,.c x64)],[]⟩,[(0,⟨[],[]⟩)])]⟩
def VJ:Sig:=.of [.cell false (.sl 153 Tq2)] [J4] (fun a=>MX N a)
def Yn (N:Nat):Jw 183 (VJ N):=J3 (Jz [(224,WZ N),(132,QT N)] AcN [] [] [] [20,24,25,29,35,36]) Aeu Tryz.f183 N (Jv ⟨Zq N,QZ N,trivial⟩)
def Aeq:List (Nat×Nrm):=[(3,⟨[4],[],[],[],[]⟩),(30,⟨[4,15,16,17],[],[],[],[]⟩)]
def Agm:Lk:=⟨[],[(30,⟨[(4,.c xs),(15,.i),(16,.i),(17,.c x64)],[]⟩,[(0,⟨[(4,.c xs)],[]⟩)])]⟩
def Tu:Sig:=.of [.cell false (.sl 84 Tq1)] [J7,J4] (fun a=>Qh N a)
def Ur (N:Nat):Jw 234 (Tu N):=J3 (Jz [(298,Uo N)] Aeq) Agm Tryz.f234 N (Jv ⟨WW N,trivial⟩)
def Akh:Sig:=.of [TD] [NL,J4] (fun a=>AbF N a)
def Aou (N:Nat):Jw 160 (Akh N):=J3 (Jz [(45,MK N),(244,rG N)] []) ⟨[],[]⟩ Tryz.f160 N (Jv ⟨LV N,Aeh N,trivial⟩)
def Aax:Sig:=.of [J7,XL] [J4] (fun a=>PN N a.1 a.2)
def qE (N:Nat):Jw 321 (Aax N):=J3 (Jz [(394,iH N)] []) ⟨[],[]⟩ Tryz.f321 N (Jv ⟨Aa1 N,trivial⟩)
def Aav:Sig:=.of [J7,XL] [J4] (fun a=>PM N a.1 a.2)
def qC (N:Nat):Jw 324 (Aav N):=J3 (Jz [(394,iI N)] []) ⟨[],[]⟩ Tryz.f324 N (Jv ⟨Aa2 N,trivial⟩)
open Go.Proofs
def AoZ:List (Nat×Nrm):=[(3,⟨[0,6],[],[],[],[]⟩),(22,⟨[0,6,14,15,16],[],[],[],[]⟩)]
def Arq:Lk:=⟨[],[(22,⟨[(0,.i),(6,.c xs),(14,.i),(15,.i),(16,.c x64)],[]⟩,[(0,⟨[(0,.i),(6,.c xs)],[]⟩)])]⟩
def Agr:Sig:=.of [J4,.cell false (.sl 84 Tq1)] [J7,J4] (fun a=>Vf N a.1 a.2)
def AlD (N:Nat):Jw 299 (Agr N):=J3 (Jz [(298,Uo N),(43,LM N),(67,TR N)] AoZ) Arq Tryz.f299 N (Jv ⟨WW N,Lc N,RG N,trivial⟩)
open Go.Proofs
def nH:Sig:=.of [.cell false (.sl 84 Tq1)] [J7] (fun a=>Tz N a)
def AcV (N:Nat):Jw 187 (nH N):=J3 (Jz [(234,Tu N),(43,LM N)] []) ⟨[],[]⟩ Tryz.f187 N (Jv ⟨Ur N,Lc N,trivial⟩)
def AjI:List (Nat×Nrm):=[(3,⟨[],[],[],[],[]⟩),(11,⟨[32,33,34],[],[],[],[]⟩),(26,⟨[32,33,34],[],[],[],[]⟩),(38,⟨[32,33,34,38,39,40],[],[],[],[]⟩)]
def AlO:Lk:=⟨[],[(26,⟨[(32,.c (xo 40960)),(33,.i),(34,.c x64)],[(40960,.arr 30 false (.sl 84 Tq1 .nil))]⟩,[(0,⟨[],[]⟩)]),(38,⟨[(32,.c (xo 40960)),(33,.i),(34,.i),(38,.i),(39,.i),(40,.c x64)],[(40960,.arr 30 false (.sl 84 Tq1 .nil))]⟩,[(2,⟨[(32,.c (xo 40960)),(33,.i),(34,.i)],[(40960,.arr 30 false (.sl 84 Tq1 .nil))]⟩)])]⟩
def Wi:Sig:=.of [Ae7] [J4] (fun a=>Ov N a)
def Xd (N:Nat):Jw 309 (Wi N):=J3 (Jz [(202,Vq N)] AjI) AlO Tryz.f309 N (Jv ⟨UL N,trivial⟩)
def AhT:Sig:=.of [TD] [Sq1,J4] (fun a=>iD N a)
def Amh (N:Nat):Jw 158 (AhT N):=J3 (Jz [(45,MK N),(107,dM N)] []) ⟨[],[]⟩ Tryz.f158 N (Jv ⟨LV N,lY N,trivial⟩)
def Adm:Sig:=.of [AbA,NL] [J4] (fun a=>Yb N a.1 a.2)
def AiH (N:Nat):Jw 27 (Adm N):=J3 (Jz [(91,wY N)] []) ⟨[],[]⟩ Tryz.f27 N (Jv ⟨AfN N,trivial⟩)
def Ags:List (Nat×Nrm):=[(3,⟨[],[],[],[],[]⟩),(93,⟨[1],[],[],[],[]⟩),(138,⟨[1,134,135,136],[],[],[],[]⟩)]
def AhH:Lk:=⟨[(93,⟨[(1,.c AP)],[(33024,.box Bv)]⟩)],[(138,⟨[(1,.c AP),(134,.i),(135,.i),(136,.c x64)],[(33024,.box Bv)]⟩,[(0,⟨[],[]⟩)])]⟩
def Ya:Sig:=.of [MP] [J4] (fun a=>QJ N a)
def aN (N:Nat):Jw 134 (Ya N):=J3 (Jz [(221,Ag0 N),(222,nD N),(223,Zp N),(224,WZ N),(225,Un N),(183,VJ N),(226,Ad8 N),(227,Qg N),(228,Ad9 N),(229,tZ N),(230,kX N)] Ags [] [] [] [17,21,22,26,30,31,36,41,42,47,48,53,54,58,59,63]) AhH Tryz.f134 N (Jv ⟨AlH N,AcT N,uB N,Zq N,WV N,Yn N,AjD N,PT N,AjE N,xY N,sS N,trivial⟩)
def Yl:Sig:=.of [Ae7] [J7,J4] (fun a=>Rf N a)
def oD (N:Nat):Jw 235 (Yl N):=J3 (Jz [(225,Un N),(299,Agr N),(67,TR N)] []) ⟨[],[]⟩ Tryz.f235 N (Jv ⟨WV N,AlD N,RG N,trivial⟩)
open Go.Proofs
def Aaq:List (Nat×Nrm):=[(3,⟨[],[],[],[],[]⟩),(10,⟨[6,7,8],[],[],[],[]⟩)]
def AbG:Lk:=⟨[],[(10,⟨[(6,.i),(7,.i),(8,.c x64)],[]⟩,[(0,⟨[],[]⟩)])]⟩
def UB:Sig:=.of [.cell false (.sl 84 Tq1)] [J4] (fun a=>OC N a)
def XF (N:Nat):Jw 250 (UB N):=J3 (Jz [(202,Vq N)] Aaq) AbG Tryz.f250 N (Jv ⟨UL N,trivial⟩)
def Xw:Sig:=.of [Sq2,JS] [J7,J4] (fun a=>Oo N a.1 a.2)
def XR (N:Nat):Jw 121 (Xw N):=J3 (Jz [(202,Vq N),(123,Oy N),(56,dN N)] []) ⟨[],[]⟩ Tryz.f121 N (Jv ⟨UL N,Nr N,lZ N,trivial⟩)
def AkC:List (Nat×Nrm):=[(29,⟨[1,2,4,6,11,13],[],[],[],[]⟩),(53,⟨[1,4,6],[],[(some 34304,2,Aw)],[],[]⟩)]
def Am9:Lk:=⟨[(29,⟨[(1,.i),(2,.c AL),(4,.c AU),(6,.c Bc),(11,.i),(13,.c xb)],[(33280,.box BU),(33792,.box [AA,AB,(xo 33795)]),(33795,.JZ 144 false Aw),(34304,.box [AA,AB,(xo 34307)]),(34307,.JZ 144 false Aw)]⟩),(53,⟨[(1,.i),(4,.c AU),(6,.c Bc)],[(33792,.box [AA,AB,(xo 33795)]),(33795,.JZ 144 false Aw),(34304,.box [x64,xs,Bo])]⟩)],[]⟩
def dO:Sig:=.of [NL,JS] [Sq2,J4] (fun a=>ND N a.1 a.2)
def mD (N:Nat):Jw 401 (dO N):=J3 (Jz [(107,dM N),(202,Vq N)] AkC) Am9 Tryz.f401 N (Jv ⟨lY N,UL N,trivial⟩)
def XU:Sig:=.of [AlX] [NL] (fun a=>Tq N a)
def ZO (N:Nat):Jw 93 (XU N):=J3 (Jz [(179,S9 N),(180,iU N),(181,bT N)] []) ⟨[],[]⟩ Tryz.f93 N (Jv ⟨TN N,Abb N,zK N,trivial⟩)
def nG:Sig:=.of [Sq1] [J7] (fun a=>We N a)
def AcU (N:Nat):Jw 185 (nG N):=J3 (Jz [(234,Tu N)] []) ⟨[],[]⟩ Tryz.f185 N (Jv ⟨Ur N,trivial⟩)
open Go.Proofs
def Aar:List (Nat×Nrm):=[(13,⟨[1,4],[],[],[],[]⟩)]
def AbH:Lk:=⟨[(13,⟨[(1,.c AP),(4,.c xb)],[(33024,.box BR)]⟩)],[]⟩
def Z5:Sig:=.of [Sq4] [J4] (fun a=>Tf N a)
def uT (N:Nat):Jw 203 (Z5 N):=J3 (Jz [(250,UB N),(114,SL N)] Aar) AbH Tryz.f203 N (Jv ⟨XF N,RS N,trivial⟩)
def Aee:List (Nat×Nrm):=[(3,⟨[5],[],[],[],[]⟩),(26,⟨[5,16,17,18],[],[],[],[]⟩)]
def Af0:Lk:=⟨[],[(26,⟨[(5,.c xs),(16,.i),(17,.i),(18,.c x64)],[]⟩,[(0,⟨[(5,.c xs)],[]⟩)])]⟩
def WH:Sig:=.of [.cell false (.sl 84 Tq1)] [J7,J4] (fun a=>YG N a)
def Ze (N:Nat):Jw 217 (WH N):=J3 (Jz [(292,kL N),(121,Xw N)] Aee) Af0 Tryz.f217 N (Jv ⟨qV N,XR N,trivial⟩)
def Aed:List (Nat×Nrm):=[(3,⟨[7],[([7],84,Tq1,1004096)],[],[(1000000,1004096)],[]⟩),(38,⟨[7,26,27,28],[([7],84,Tq1,1000000)],[],[(43776,1000000)],[]⟩)]
def Afz:Lk:=⟨[],[(38,⟨[(7,.c (xo 1000000)),(26,.i),(27,.i),(28,.c x64)],[(1000000,.arr 84 false Tq1)]⟩,[(0,⟨[(7,.c (xo 1004096))],[(1004096,.arr 84 false Tq1)]⟩)])]⟩
def WG:Sig:=.of [J7] [.cell false (.sl 84 Tq1),J4] (fun a=>O6 N a)
def Zd (N:Nat):Jw 355 (WG N):=J3 (Jz [(192,Ox N),(292,kL N),(401,dO N)] Aed) Afz Tryz.f355 N (Jv ⟨Nq N,qV N,mD N,trivial⟩)
def bW:Sig:=.of [AiA] [NL] (fun a=>QU N a)
def Aaa (N:Nat):Jw 28 (bW N):=J3 (Jz [(92,Ri N),(93,XU N)] [] [] [] [] [] [] [(93,[(0,1),(0,2),(0,3)])]) ⟨[],[]⟩ Tryz.f28 N (Jv ⟨SH N,ZO N,trivial⟩)
def Aem:List (Nat×Nrm):=[(3,⟨[10],[],[],[],[]⟩),(42,⟨[0,10,11,12],[],[],[],[]⟩)]
def AfL:Lk:=⟨[],[(42,⟨[(0,.c AO),(10,.c xs),(11,.c x64),(12,.c x64)],[(0,.box BK)]⟩,[(0,⟨[(10,.c xs)],[(0,.box BK)]⟩)])]⟩
def iT:Sig:=.of [AlX,J4,J7] [J7,J4] (fun a=>UQ N a.1 a.2.1 a.2.2)
def Aba (N:Nat):Jw 155 (iT N):=J3 (Jz [(179,S9 N),(152,QW N),(93,XU N),(177,ZP N),(241,Als N),(242,fU N)] Aem [] [] [] [] [] [(93,[(0,1),(0,2),(0,3)])]) AfL Tryz.f155 N (Jv ⟨TN N,SC N,ZO N,iW N,AoK N,dX N,trivial⟩)
def Abu:List (Nat×Nrm):=[(3,⟨[5],[],[],[],[]⟩),(34,⟨[5,17,18,19],[],[],[],[]⟩),(53,⟨[5,7,8,17,18,19],[],[],[],[]⟩)]
def AcP:Lk:=⟨[(53,⟨[(5,.i),(7,.c (.c (.ptr 34560 0))),(8,.c xs),(17,.i),(18,.i),(19,.i)],[(34560,.box BR)]⟩)],[(34,⟨[(5,.c xs),(17,.i),(18,.i),(19,.c x64)],[]⟩,[(0,⟨[(5,.c xs)],[]⟩)])]⟩
def aO:Sig:=.of [.cell false (.sl 153 Tq2)] [J7,J4] (fun a=>Qy N a)
def vJ (N:Nat):Jw 190 (aO N):=J3 (Jz [(183,VJ N),(185,nG N),(43,LM N),(187,nH N),(189,lJ N),(67,TR N)] Abu) AcP Tryz.f190 N (Jv ⟨Yn N,AcU N,Lc N,AcV N,uC N,RG N,trivial⟩)
open Go.Proofs
def yF:List (Nat×Nrm):=[(3,⟨[],[],[],[],[]⟩),(18,⟨[9,10,11],[],[],[],[]⟩)]
def Aan:Lk:=⟨[],[(18,⟨[(9,.i),(10,.i),(11,.c x64)],[]⟩,[(0,⟨[],[]⟩)])]⟩
def Q9:Sig:=.of [.cell false (.sl 153 Tq2)] [J4] (fun a=>Lr N a)
def RI (N:Nat):Jw 117 (Q9 N):=J3 (Jz [(203,Z5 N)] yF) Aan Tryz.f117 N (Jv ⟨uT N,trivial⟩)
def yJ:List (Nat×Nrm):=[(45,⟨[0,2,4,5],[],[(some 34048,0,Tq1)],[],[]⟩),(73,⟨[0,2,4,5],[],[],[],[]⟩),(105,⟨[0,2,4,5],[],[(some 34048,3,Aw)],[],[]⟩)]
def Aas:Lk:=⟨[(45,⟨[(0,.c AO),(2,.c AL),(4,.c AU),(5,.c AX)],[(0,.box [Bl]),(33280,.box BN),(33281,.JZ 84 false Tq1),(33284,.JZ 144 false Aw),(33792,.box BO),(33793,.JZ 84 false Tq1),(33796,.JZ 144 false Aw),(34048,.box [Be,AA,AQ,(xo 34052)]),(34052,.JZ 144 false Aw)]⟩),(73,⟨[(0,.c AO),(2,.c AL),(4,.c AU),(5,.c AX)],[(0,.box [Bl]),(33280,.box BN),(33281,.JZ 84 false Tq1),(33284,.JZ 144 false Aw),(33792,.box BO),(33793,.JZ 84 false Tq1),(33796,.JZ 144 false Aw),(34048,.box [Be,x64,AQ,(xo 34052)]),(34052,.JZ 144 false Aw)]⟩),(105,⟨[(0,.c AO),(2,.c AL),(4,.c AU),(5,.c AX)],[(0,.box [Bl]),(33280,.box BN),(33281,.JZ 84 false Tq1),(33284,.JZ 144 false Aw),(33792,.box BO),(33793,.JZ 84 false Tq1),(33796,.JZ 144 false Aw),(34048,.box BR)]⟩)],[]⟩
def YW:Sig:=.of [TD] [Sq4,J4] (fun a=>Sr N a)
def pY (N:Nat):Jw 358 (YW N):=J3 (Jz [(109,PZ N),(73,NY N),(355,WG N),(357,sK N),(49,MI N)] yJ) Aas Tryz.f358 N (Jv ⟨PQ N,Qv N,Zd N,xG N,LU N,trivial⟩)
def bC:Sig:=.of [AiA,J7] [J7,J4] (fun a=>Q4 N a.1 a.2)
def vP (N:Nat):Jw 81 (bC N):=J3 (Jz [(92,Ri N),(154,aZ N),(155,iT N)] []) ⟨[],[]⟩ Tryz.f81 N (Jv ⟨SH N,vO N,Aba N,trivial⟩)
def AeW:Sig:=.of [.box [(false,.bool)],MP] [J7] (fun a=>YC N a.1 a.2)
def Aa7 (N:Nat):Jw 332 (AeW N):=J3 (Jz [(217,WH N),(55,Lu N),(52,MB N)] []) ⟨[],[]⟩ Tryz.f332 N (Jv ⟨Ze N,La N,LH N,trivial⟩)
open Go.Proofs
def Vl:Sig:=.of [MP] [J4] (fun a=>Ph N a)
def bI (N:Nat):Jw 251 (Vl N):=J3 (Jz [(309,Wi N)] []) ⟨[],[]⟩ Tryz.f251 N (Jv ⟨Xd N,trivial⟩)
def Ab6:List (Nat×Nrm):=[(3,⟨[0,6],[([6],9,Aq,1004096)],[],[(1000000,1004096)],[]⟩),(22,⟨[0,6,15,16,17],[([6],9,Aq,1000000)],[],[(43264,1000000)],[]⟩)]
def Adg:Lk:=⟨[],[(22,⟨[(0,.i),(6,.c (xo 1000000)),(15,.i),(16,.i),(17,.c x64)],[(1000000,.arr 9 false Aq)]⟩,[(0,⟨[(0,.i),(6,.c (xo 1004096))],[(1004096,.arr 9 false Aq)]⟩)])]⟩
def bH:Sig:=.of [J4,.cell false (.sl 84 Tq1)] [J7,J4] (fun a=>Xe N a.1 a.2)
def vU (N:Nat):Jw 436 (bH N):=J3 (Jz [(121,Xw N),(123,Oy N)] Ab6) Adg Tryz.f436 N (Jv ⟨XR N,Nr N,trivial⟩)
def Ab5:List (Nat×Nrm):=[(3,⟨[6],[([6],84,Tq1,1004096)],[],[(1000000,1004096)],[]⟩),(34,⟨[6,23,24,25],[([6],84,Tq1,1000000)],[],[(48128,1000000)],[]⟩)]
def Adf:Lk:=⟨[],[(34,⟨[(6,.c (xo 1000000)),(23,.i),(24,.i),(25,.c x64)],[(1000000,.arr 84 false Tq1)]⟩,[(0,⟨[(6,.c (xo 1004096))],[(1004096,.arr 84 false Tq1)]⟩)])]⟩
def bG:Sig:=.of [J7] [.cell false (.sl 84 Tq1),J4] (fun a=>OQ N a)
def vT (N:Nat):Jw 437 (bG N):=J3 (Jz [(192,Ox N),(401,dO N)] Ab5) Adf Tryz.f437 N (Jv ⟨Nq N,mD N,trivial⟩)
def mY:Sig:=.of [AbA] [J4] (fun a=>VX N a)
def AcM (N:Nat):Jw 62 (mY N):=J3 (Jz [(132,QT N),(133,YQ N),(134,Ya N)] [] [] [] [] [28,32,33,37,38,42,43,49]) ⟨[],[]⟩ Tryz.f62 N (Jv ⟨QZ N,bU N,aN N,trivial⟩)
open Go.Proofs
def uG:Sig:=.of [Ae7] [J7,J4] (fun a=>Ab4 N a)
def Ae1 (N:Nat):Jw 397 (uG N):=J3 (Jz [(309,Wi N),(436,bH N),(123,Oy N)] []) ⟨[],[]⟩ Tryz.f397 N (Jv ⟨Xd N,vU N,Nr N,trivial⟩)
def AeQ:Sig:=.of [J7,XL] [J4] (fun a=>RN N a.1 a.2)
def Aaw (N:Nat):Jw 333 (AeQ N):=J3 (Jz [(73,NY N),(355,WG N)] []) ⟨[],[]⟩ Tryz.f333 N (Jv ⟨Qv N,Zd N,trivial⟩)
def AhM:List (Nat×Nrm):=[(46,⟨[2,4,5,8,37,38,39],[],[],[],[]⟩)]
def uF:Sig:=.of [J7] [Ae7,J4] (fun a=>XB N a)
def Ae0 (N:Nat):Spec Tryz.prog 398 (uF N):=Qq (C:=ctx Tryz.prog [(148,Xg N),(192,Ox N),(309,Wi N),(437,bG N)] AhM) (L:=⟨[],[]⟩) (fn:=Tryz.f398) (N:=N+9) (Jv ⟨Ut N,Nq N,Xd N,vT N,trivial⟩)
def Aev:List (Nat×Nrm):=[(3,⟨[1,5,7],[],[],[],[]⟩),(11,⟨[1,5,10],[],[],[],[]⟩),(19,⟨[1,5,13],[],[],[],[]⟩),(27,⟨[1,5],[],[],[],[]⟩),(37,⟨[1,5,6],[],[],[],[]⟩),(41,⟨[1,5],[([5],176,Tq4,1000000)],[],[(45312,1000000)],[]⟩),(49,⟨[1,5],[],[],[(47872,1008192),(1000000,1008192)],[]⟩),(62,⟨[1,5,7,65,66,67],[],[],[],[]⟩),(81,⟨[1,5],[],[],[(53760,1012288),(1008192,1012288)],[]⟩),(94,⟨[1,5,10,88,89,90],[],[],[],[]⟩),(113,⟨[1,5],[],[],[(60160,1024576),(1012288,1024576)],[]⟩),(126,⟨[1,5,13,113,114,115],[],[],[],[]⟩),(145,⟨[1,5],[],[],[(67584,1036864),(1024576,1036864)],[]⟩),(161,⟨[1,5,16],[],[],[],[]⟩),(169,⟨[1,5,16],[],[],[],[]⟩),(173,⟨[1,5],[],[],[(75008,1049152),(1036864,1049152)],[]⟩),(181,⟨[1,5],[],[],[(77568,1061440),(1049152,1061440)],[]⟩),(193,⟨[1,5],[],[],[(81920,1065536),(1061440,1065536)],[]⟩),(213,⟨[1,5],[],[],[(86016,1069632),(1065536,1069632)],[]⟩),(221,⟨[1,5],[],[],[(88832,1073728),(1069632,1073728)],[]⟩),(229,⟨[1,5],[],[],[(92160,1077824),(1073728,1077824)],[]⟩),(234,⟨[1,5,237,238,239],[],[],[(100096,1077824)],[]⟩)]
def Agt:Lk:=⟨[(37,⟨[(1,.c AP),(5,.c x0),(6,.c xs)],[(33024,.box Bv)]⟩),(41,⟨[(1,.c AP),(5,.c (xo 1000000))],[(33024,.box Bv),(1000000,.arr 176 false Tq4)]⟩),(49,⟨[(1,.c AP),(5,.c (xo 1008192))],[(33024,.box Bv),(1008192,.arr 176 false Tq4)]⟩),(81,⟨[(1,.c AP),(5,.c (xo 1012288))],[(33024,.box Bv),(1012288,.arr 176 false Tq4)]⟩),(113,⟨[(1,.c AP),(5,.c (xo 1024576))],[(33024,.box Bv),(1024576,.arr 176 false Tq4)]⟩),(145,⟨[(1,.c AP),(5,.c (xo 1036864))],[(33024,.box Bv),(1036864,.arr 176 false Tq4)]⟩),(161,⟨[(1,.c AP),(5,.c (xo 1036864)),(16,.c xs)],[(33024,.box Bv),(1036864,.arr 176 false Tq4)]⟩),(169,⟨[(1,.c AP),(5,.c (xo 1036864)),(16,.c xs)],[(33024,.box Bv),(1036864,.arr 176 false Tq4)]⟩),(173,⟨[(1,.c AP),(5,.c (xo 1049152))],[(33024,.box Bv),(1049152,.arr 176 false Tq4)]⟩),(181,⟨[(1,.c AP),(5,.c (xo 1061440))],[(33024,.box Bv),(1061440,.arr 176 false Tq4)]⟩),(193,⟨[(1,.c AP),(5,.c (xo 1065536))],[(33024,.box Bv),(1065536,.arr 176 false Tq4)]⟩),(213,⟨[(1,.c AP),(5,.c (xo 1069632))],[(33024,.box Bv),(1069632,.arr 176 false Tq4)]⟩),(221,⟨[(1,.c AP),(5,.c (xo 1073728))],[(33024,.box Bv),(1073728,.arr 176 false Tq4)]⟩),(229,⟨[(1,.c AP),(5,.c (xo 1077824))],[(33024,.box Bv),(1077824,.arr 176 false Tq4)]⟩)],[(62,⟨[(1,.c AP),(5,.c (xo 1008192)),(7,.c xs),(65,.i),(66,.i),(67,.c x64)],[(33024,.box Bv),(1008192,.arr 176 false Tq4)]⟩,[(0,⟨[(1,.c AP),(5,.c (xo 1008192)),(7,.c xs)],[(33024,.box Bv),(1008192,.arr 176 false Tq4)]⟩)]),(94,⟨[(1,.c AP),(5,.c (xo 1012288)),(10,.c xs),(88,.i),(89,.i),(90,.c x64)],[(33024,.box Bv),(1012288,.arr 176 false Tq4)]⟩,[(2,⟨[(1,.c AP),(5,.c (xo 1012288)),(10,.c xs)],[(33024,.box Bv),(1012288,.arr 176 false Tq4)]⟩)]),(126,⟨[(1,.c AP),(5,.c (xo 1024576)),(13,.c xs),(113,.i),(114,.i),(115,.c x64)],[(33024,.box Bv),(1024576,.arr 176 false Tq4)]⟩,[(4,⟨[(1,.c AP),(5,.c (xo 1024576)),(13,.c xs)],[(33024,.box Bv),(1024576,.arr 176 false Tq4)]⟩)]),(234,⟨[(1,.c AP),(5,.c (xo 1077824)),(237,.c (xo 93440)),(238,.i),(239,.c x64)],[(33024,.box Bv),(93440,.arr 33 false (.sl 153 Tq2 .nil)),(1077824,.arr 176 false Tq4)]⟩,[(6,⟨[(1,.c AP),(5,.c (xo 1077824))],[(33024,.box Bv),(1077824,.arr 176 false Tq4)]⟩)])]⟩
def jJ:Sig:=.of [MP] [.cell false (.sl 176 Tq4),J4] (fun a=>Vg N a)
def Abt (N:Nat):Jw 140 (jJ N):=J3 (Jz [(134,Ya N),(188,xZ N),(68,eX N),(43,LM N),(189,lJ N),(142,Ym N),(234,Tu N),(235,Yl N),(190,aO N)] Aev) Agt Tryz.f140 N (Jv ⟨aN N,Agw N,nI N,Lc N,uC N,X8 N,Ur N,oD N,vJ N,trivial⟩)
open Go.Proofs
def uQ:List (Nat×Nrm):=[(3,⟨[5,6],[([6],9,Aq,1016384)],[],[(1000000,1016384)],[]⟩),(38,⟨[5,6,22,23,24],[([6],9,Aq,1000000)],[],[(54272,1000000)],[]⟩),(57,⟨[5,6,8,9,22,23,24],[([6],9,Aq,1004096)],[],[(1000000,1004096)],[]⟩),(65,⟨[5,6,8,9,22,23,24],[([6],9,Aq,1008192)],[],[(1004096,1008192)],[]⟩),(77,⟨[5,6,9,22,23,24],[([6],9,Aq,1012288)],[],[(1008192,1012288)],[]⟩)]
def yH:Lk:=⟨[(57,⟨[(5,.c Ba),(6,.c (xo 1004096)),(8,.c AZ),(9,.c (xo 39936)),(22,.i),(23,.i),(24,.i)],[(34816,.box BR),(38144,.box [xb]),(39936,.arr 9 false Aq),(1004096,.arr 9 false Aq)]⟩),(65,⟨[(5,.c Ba),(6,.c (xo 1008192)),(8,.c AZ),(9,.c (xo 39936)),(22,.i),(23,.i),(24,.i)],[(34816,.box BR),(38144,.box [xb]),(39936,.arr 9 false Aq),(1008192,.arr 9 false Aq)]⟩),(77,⟨[(5,.c Ba),(6,.c (xo 1012288)),(9,.c (xo 39936)),(22,.i),(23,.i),(24,.i)],[(38144,.box [xb]),(39936,.arr 9 false Aq),(1012288,.arr 9 false Aq)]⟩)],[(38,⟨[(5,.c Ba),(6,.c (xo 1000000)),(22,.i),(23,.i),(24,.c x64)],[(38144,.box [xb]),(1000000,.arr 9 false Aq)]⟩,[(0,⟨[(5,.c Ba),(6,.c (xo 1016384))],[(38144,.box [xb]),(1016384,.arr 9 false Aq)]⟩)])]⟩
def TG:Sig:=.of [.cell false (.sl 153 Tq2)] [J7,J4] (fun a=>UA N a)
def VO (N:Nat):Jw 131 (TG N):=J3 (Jz [(117,Q9 N),(217,WH N),(55,Lu N),(58,Ld N),(218,aB N),(121,Xw N),(52,MB N),(61,YF N)] uQ) yH Tryz.f131 N (Jv ⟨RI N,Ze N,La N,KU N,jD N,XR N,LH N,VE N,trivial⟩)
def uP:List (Nat×Nrm):=[(3,⟨[6],[([6],153,Tq2,1004096)],[],[(1000000,1004096)],[]⟩),(30,⟨[4,6],[([6],153,Tq2,1000000)],[],[(44032,1000000)],[]⟩)]
def yG:Lk:=⟨[],[(30,⟨[(4,.c (.c (.ptr 36096 0))),(6,.c (xo 1000000))],[(36096,.box [Bl]),(1000000,.arr 153 false Tq2)]⟩,[(0,⟨[(6,.c (xo 1004096))],[(1004096,.arr 153 false Tq2)]⟩)])]⟩
def TF:Sig:=.of [J7] [.cell false (.sl 153 Tq2),J4] (fun a=>Pg N a)
def VN (N:Nat):Jw 275 (TF N):=J3 (Jz [(196,P6 N),(358,YW N),(117,Q9 N)] uP [(44,UH N),(197,Oa N)]) yG Tryz.f275 N (Jv ⟨Pq N,pY N,RI N,trivial⟩ ⟨WA N,QC N,trivial⟩)
def AiJ:List (Nat×Nrm):=[(3,⟨[1,10],[],[],[],[]⟩),(130,⟨[1,10,120,121,122],[],[],[],[]⟩)]
def Aki:Lk:=⟨[],[(130,⟨[(1,.c AP),(10,.c x64),(120,.i),(121,.i),(122,.c x64)],[(33024,.box Bv)]⟩,[(0,⟨[(1,.c AP),(10,.c x64)],[(33024,.box Bv)]⟩)])]⟩
def VM:Sig:=.of [MP] [J4] (fun a=>P9 N a)
def Ws (N:Nat):Jw 166 (VM N):=J3 (Jz [(247,AaD N),(248,iF N),(249,XE N),(250,UB N),(251,Vl N),(117,Q9 N),(252,Xq N),(253,Yc N)] AiJ [] [(127,Afj N)] [] [15,19,20,24,28,29,34,39,40,45,46,51,52,56,57,61]) Aki Tryz.f166 N (Jv ⟨Ah1 N,Aap N,jW N,XF N,bI N,RI N,XQ N,nV N,trivial⟩ trivial ⟨Akw N,trivial⟩)
def qG:Sig:=.of [.box [(false,.bool)],MP] [J7] (fun a=>TJ N a.1 a.2)
def iJ (N:Nat):Jw 335 (qG N):=J3 (Jz [(397,uG N),(55,Lu N)] []) ⟨[],[]⟩ Tryz.f335 N (Jv ⟨Ae1 N,La N,trivial⟩)
def qA:Sig:=.of [J7,XL] [J4] (fun a=>Oi N a.1 a.2)
def iG (N:Nat):Jw 336 (qA N):=J3 (Jz [(398,uF N)] []) ⟨[],[]⟩ Tryz.f336 N (Jv ⟨Ae0 N,trivial⟩)
open Go.Proofs
def MZ:Sig:=.of [AbA] [J4] (fun a=>U0 N a)
def vZ (N:Nat):Jw 85 (MZ N):=J3 (Jz [(114,SL N),(164,AhU N),(165,Uk N),(166,VM N)] []) ⟨[],[]⟩ Tryz.f85 N (Jv ⟨RS N,Ami N,TW N,Ws N,trivial⟩)
def AdT:Sig:=.of [.box [(false,.bool)],MP] [J7] (fun a=>XP N a.1 a.2)
def yR (N:Nat):Jw 344 (AdT N):=J3 (Jz [(131,TG N),(55,Lu N)] []) ⟨[],[]⟩ Tryz.f344 N (Jv ⟨VO N,La N,trivial⟩)
def Aa4:Sig:=.of [.box [(false,.bool)],MP] [J7] (fun a=>V9 N a.1 a.2)
def qH (N:Nat):Jw 347 (Aa4 N):=J3 (Jz [(131,TG N),(55,Lu N)] []) ⟨[],[]⟩ Tryz.f347 N (Jv ⟨VO N,La N,trivial⟩)
def AdN:Sig:=.of [J7,XL] [J4] (fun a=>QQ N a.1 a.2)
def yM (N:Nat):Jw 345 (AdN N):=J3 (Jz [(275,TF N)] []) ⟨[],[]⟩ Tryz.f345 N (Jv ⟨VN N,trivial⟩)
open Go.Proofs
def AbL:Sig:=.of [.box [(false,.bool)],MP] [J7] (fun a=>Wy N a.1 a.2)
def vC (N:Nat):Jw 329 (AbL N):=J3 (Jz [(53,UJ N)] []) ⟨[],[]⟩ Tryz.f329 N (Jv ⟨VF N,trivial⟩)
def yO:Sig:=.of [.box [(false,.bool)],MP] [J7] (fun a=>UF N a.1 a.2)
def nY (N:Nat):Jw 341 (yO N):=J3 (Jz [(58,Ld N),(52,MB N)] []) ⟨[],[]⟩ Tryz.f341 N (Jv ⟨KU N,LH N,trivial⟩)
def uA:Sig:=.of [MP,MP] [JS] (fun a=>Us N a.1 a.2)
def Aew (N:Nat):Jw 90 (uA N):=J3 (Jz [(169,bV N),(170,aS N),(171,Rh N),(172,aQ N),(173,jL N),(174,Yo N)] [] [] [] [] [10,16,17,23,24,30,31,37,38,44,45,51,52,58,59,65,66,72,73,79,80,86,87,93,94,100,101,107,108,114,115,121,122,128]) ⟨[],[]⟩ Tryz.f90 N (Jv ⟨zV N,vN N,SG N,vM N,Abw N,oI N,trivial⟩)
open Go.Proofs
def jM:Sig:=.of [J4,MP] [J7,J4] (fun a=>Vh N a.1 a.2)
def Aby (N:Nat):Jw 66 (jM N):=J3 (Jz [(140,jJ N),(100,y8 N)] []) ⟨[],[]⟩ Tryz.f66 N (Jv ⟨Abt N,Ag1 N,trivial⟩)
open Go.Proofs
def Aau:Sig:=.of [J7,XL] [J4] (fun a=>PL N a.1 a.2)
def qB (N:Nat):Jw 348 (Aau N):=J3 (Jz [(275,TF N)] []) ⟨[],[]⟩ Tryz.f348 N (Jv ⟨VN N,trivial⟩)
def Zo:Sig:=.of [AbA] [J7,J4] (fun a=>PV N a)
def tX (N:Nat):Jw 17 (Zo N):=J3 (Jz [(62,mY N),(63,WX N),(64,jF N),(65,mZ N),(66,jM N),(68,eX N),(43,LM N),(69,XZ N),(67,TR N)] []) ⟨[],[]⟩ Tryz.f17 N (Jv ⟨AcM N,Zn N,Abl N,AcO N,Aby N,nI N,Lc N,aK N,RG N,trivial⟩)
open Go.Proofs
def AnH (N n:Nat):Sig:=.of [.box [(false,.bool)],MP] [.cell false .str] (AsY N n)
def Auj (N:Nat):Xi Tryz.prog (AnH N):=YY (J6:=[.box [(false,.bool)],MP]) (JJ:=[.cell false .str]) (l:=[(311,fun a=>YB N a.1 a.2),(314,fun a=>YD N a.1 a.2),(317,fun a=>VC N a.1 a.2),(320,fun a=>VB N a.1 a.2),(323,fun a=>VA N a.1 a.2),(326,fun a=>XO N a.1 a.2),(329,fun a=>Wy N a.1 a.2),(332,fun a=>YC N a.1 a.2),(335,fun a=>TJ N a.1 a.2),(338,fun a=>W9 N a.1 a.2),(341,fun a=>UF N a.1 a.2),(344,fun a=>XP N a.1 a.2),(347,fun a=>V9 N a.1 a.2)]) ⟨Aa3 N,AaC N,qK N,qJ N,qI N,yP N,vC N,Aa7 N,iJ N,vF N,nY N,yR N,qH N,trivial⟩
def AnI (N n:Nat):Sig:=.of [.cell false .str,XL] [.cell false (.int .i64)] (AaI N n)
def Auk (N:Nat):Xi Tryz.prog (AnI N):=YY (J6:=[.cell false .str,XL]) (JJ:=[.cell false (.int .i64)]) (l:=[(312,fun a=>RJ N a.1 a.2),(315,fun a=>RP N a.1 a.2),(318,fun a=>PO N a.1 a.2),(321,fun a=>PN N a.1 a.2),(324,fun a=>PM N a.1 a.2),(327,fun a=>QP N a.1 a.2),(330,fun a=>Qr N a.1 a.2),(333,fun a=>RN N a.1 a.2),(336,fun a=>Oi N a.1 a.2),(339,fun a=>Qs N a.1 a.2),(342,fun a=>Pm N a.1 a.2),(345,fun a=>QQ N a.1 a.2),(348,fun a=>PL N a.1 a.2)]) ⟨Aat N,Aa0 N,qF N,qE N,qC N,yL N,uV N,Aaw N,iG N,uZ N,nX N,yM N,qB N,trivial⟩
open Go.Proofs
def Ahw:List (Nat×Nrm):=[(3,⟨[1,5,6],[([6],176,Tq4,1004096)],[],[(1000000,1004096)],[]⟩),(30,⟨[1,5,6,16,17,18],[([6],176,Tq4,1000000)],[],[(44032,1000000)],[]⟩)]
def AiL:Lk:=⟨[],[(30,⟨[(1,.c AP),(5,.c (.c (.ptr 36608 0))),(6,.c (xo 1000000)),(16,.i),(17,.i),(18,.c x64)],[(33024,.box Bv),(36608,.box [xb]),(1000000,.arr 176 false Tq4)]⟩,[(0,⟨[(1,.c AP),(5,.c (.c (.ptr 36608 0))),(6,.c (xo 1004096))],[(33024,.box Bv),(36608,.box [xb]),(1004096,.arr 176 false Tq4)]⟩)])]⟩
def pW:Sig:=.of [MP] [.cell false (.sl 176 Tq4),J4] (fun a=>Aao N a)
def AdK (N:Nat):Jw 168 (pW N):=J3 (Jz [(166,VM N),(252,Xq N),(61,YF N)] Ahw [] [(23,Afj N),(38,AnH N)]) AiL Tryz.f168 N (Jv ⟨Ws N,XQ N,VE N,trivial⟩ trivial ⟨Akw N,Auj N,trivial⟩)
def Akk:List (Nat×Nrm):=[(3,⟨[0,5],[],[],[],[]⟩),(18,⟨[0,5,15,16,17],[],[],[],[]⟩)]
def Aml:Lk:=⟨[],[(18,⟨[(0,.c AO),(5,.c AX),(15,.i),(16,.i),(17,.c x64)],[(0,.box BI),(5,.arr 9 true Aq),(6,.arr 9 true Aq),(7,.arr 267 true (.str Aq)),(19,.arr 176 true Tq4),(34048,.box [xs,xb,xs])]⟩,[(0,⟨[(0,.c AO),(5,.c AX)],[(0,.box BI),(5,.arr 9 true Aq),(6,.arr 9 true Aq),(7,.arr 267 true (.str Aq)),(19,.arr 176 true Tq4),(34048,.box [xs,xb,xs])]⟩)])]⟩
def AaE:Sig:=.of [XL,.cell false (.sl 176 Tq4),At5] [J4] (fun a=>Ol N a.1 a.2.1 a.2.2)
def Ah2 (N:Nat):Jw 246 (AaE N):=J3 (Jz [(214,TP N),(308,dB N),(215,gQ N)] Akk [] [(66,AnI N)] [] [51,55,56,60,63,64]) Aml Tryz.f246 N (Jv ⟨RD N,lV N,fC N,trivial⟩ trivial ⟨Auk N,trivial⟩)
open Go.Proofs
def lT:Sig:=.of [.box [(false,.bool)],MP] [J7] (fun a=>wB N a.1 a.2)
def AbE (N:Nat):Jw 88 (lT N):=J3 (Jz [(168,pW N),(55,Lu N),(59,Afp N),(58,Ld N)] []) ⟨[],[]⟩ Tryz.f88 N (Jv ⟨AdK N,La N,Ak4 N,KU N,trivial⟩)
def Ahv:List (Nat×Nrm):=[(3,⟨[2,4],[],[],[(36101,1004144),(36102,1004128),(36103,1004112),(36115,1004096),(1000000,1004096),(1000016,1004112),(1000032,1004128),(1000048,1004144)],[]⟩),(22,⟨[0,2,4,14,15,16],[],[],[(33797,1000048),(33798,1000032),(33799,1000016),(33811,1000000),(36101,1000048),(36102,1000032),(36103,1000016),(36115,1000000)],[]⟩)]
def AiK:Lk:=⟨[],[(22,⟨[(0,.i),(2,.c AL),(4,.c AU),(14,.i),(15,.i),(16,.c x64)],[(33280,.box Bz),(33285,.JZ 9 false Aq),(33286,.JZ 9 false Aq),(33287,.JZ 267 false (.str Aq)),(33291,.JZ 84 false Tq1),(33293,.JZ 84 false Tq1),(33294,.JZ 84 false Tq1),(33297,.JZ 153 false Tq2),(33298,.JZ 153 false Tq2),(33299,.JZ 176 false Tq4),(33792,.box BB),(1000000,.arr 176 true Tq4),(1000016,.arr 267 true (.str Aq)),(1000032,.arr 9 true Aq),(1000048,.arr 9 true Aq)]⟩,[(0,⟨[(2,.c AL),(4,.c AU)],[(33280,.box Bz),(33285,.JZ 9 false Aq),(33286,.JZ 9 false Aq),(33287,.JZ 267 false (.str Aq)),(33291,.JZ 84 false Tq1),(33293,.JZ 84 false Tq1),(33294,.JZ 84 false Tq1),(33297,.JZ 153 false Tq2),(33298,.JZ 153 false Tq2),(33299,.JZ 176 false Tq4),(33792,.box [xb,xb,x64,x64,(xo 1004144),(xo 1004128),(xo 1004112),x64,x64,x64,Be,xb,Be,Be,xs,xs,Bg,Bg,(xo 1004096)]),(1004096,.arr 176 true Tq4),(1004112,.arr 267 true (.str Aq)),(1004128,.arr 9 true Aq),(1004144,.arr 9 true Aq)]⟩)])]⟩
def pV:Sig:=.of [.cell false (.sl 176 Tq4)] [MP,J4] (fun a=>Rt N a)
def AdJ (N:Nat):Jw 163 (pV N):=J3 (Jz [(161,dA N),(246,AaE N),(166,VM N)] Ahv) AiK Tryz.f163 N (Jv ⟨lU N,Ah2 N,Ws N,trivial⟩)
open Go.Proofs
def OZ:Sig:=.of [.box [(false,.bool)],A1l] [J7] (fun a=>Xn N a.1 a.2)
def Akg (N:Nat):Jw 86 (OZ N):=J3 (Jz [(53,UJ N),(58,Ld N),(54,Sv N),(56,dN N),(55,Lu N),(57,Adp N),(52,MB N),(87,rH N),(88,lT N)] []) ⟨[],[]⟩ Tryz.f86 N (Jv ⟨VF N,KU N,TM N,lZ N,La N,AiY N,LH N,Aei N,AbE N,trivial⟩)
def pR:Sig:=.of [A1l,J7] [J4] (fun a=>Xo N a.1 a.2)
def AdH (N:Nat):Jw 82 (pR N):=J3 (Jz [(156,wF N),(157,Adn N),(83,Y7 N),(158,AhT N),(159,wE N),(160,Akh N),(161,dA N),(109,PZ N),(162,Afo N),(163,pV N),(49,MI N)] [] [(104,Ug N)]) ⟨[],[]⟩ Tryz.f82 N (Jv ⟨AeN N,AiI N,bK N,Amh N,AeM N,Aou N,lU N,PQ N,Ak2 N,AdJ N,LU N,trivial⟩ ⟨YE N,trivial⟩)
end
end Go.Proofs.YtfgdgdnlglejbaaGreatDoor.Vm
