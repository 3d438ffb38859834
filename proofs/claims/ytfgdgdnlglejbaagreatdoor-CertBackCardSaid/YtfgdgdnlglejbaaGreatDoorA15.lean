import Derived.Test.YtfgdgdnlglejbaaGreatDoorA14
set_option linter.all false
namespace Go.Proofs.YtfgdgdnlglejbaaGreatDoor.Vm
noncomputable section
variable (N:Nat)
open Go.Proofs
def Ak0:List (Nat×Nrm):=[(3,⟨[],[],[],[],[]⟩),(10,⟨[0,1,5],[],[],[],[]⟩)]
def Anp:Lk:=⟨[],[(10,⟨[(0,.i),(1,.i),(5,.c x64)],[]⟩,[(0,⟨[],[]⟩)])]⟩
def Aer:Sig:=.of [D5,.cell false .fn] [Ee] (fun a=>Acx N a.1 a.2)
theorem Ahm:Dq 361 (Aer N):=Dw (Dv [] Ak0 [] [(12,Agc N)]) Anp Tryz.f361 N (Dp trivial trivial ⟨AlU N,trivial⟩)
def eU:Sig:=.of [D5] [Ee] (fun a=>WB N a)
theorem jP:Dq 367 (eU N):=Dw (Dv [(408,qP N),(409,xB N),(406,Ua N)] [] [] [] [] [13,17,18,21,22,25]) ⟨[],[]⟩ Tryz.f367 N (Dp ⟨Acs N,Adx N,RP N,trivial⟩)
def AaN:Sig:=.of [D5] [Ee] (fun a=>wX N a)
theorem Afl:Dq 368 (AaN N):=Dw (Dv [(406,Ua N)] []) ⟨[],[]⟩ Tryz.f368 N (Dp ⟨RP N,trivial⟩)
def jQ:Sig:=.of [D5] [Ee] (fun a=>Zc N a)
theorem Aax:Dq 369 (jQ N):=Dw (Dv [(410,UZ N),(406,Ua N),(411,Qo N)] []) ⟨[],[]⟩ Tryz.f369 N (Dp ⟨gG N,RP N,TD N,trivial⟩)
def AgC:List (Nat×Nrm):=[(3,⟨[2,4,5,6],[],[],[],[]⟩),(11,⟨[2,4,5,6,7],[],[],[],[]⟩),(22,⟨[2,4,5,6],[],[],[],[]⟩),(38,⟨[2,4,5,6,7],[],[],[],[]⟩)]
def AhZ:Lk:=⟨[],[(22,⟨[(2,.c AA),(4,.i),(5,.i),(6,.c x64)],[(33280,.box BN)]⟩,[(0,⟨[(2,.c AA),(4,.i),(5,.i),(6,.c x64)],[(33280,.box BN)]⟩)]),(38,⟨[(2,.c AA),(4,.c x64),(5,.i),(6,.i),(7,.c x64)],[(33280,.box BN)]⟩,[(2,⟨[(2,.c AA),(4,.c x64),(5,.i),(6,.i),(7,.c x64)],[(33280,.box BN)]⟩)])]⟩
def vN:Sig:=.of [Dx] [Sq7,Dx] (fun a=>AcO N a)
theorem AcP:Dq 126 (vN N):=Dw (Dv [(211,Xl N),(212,Xm N)] AgC) AhZ Tryz.f126 N (Dp ⟨YR N,YS N,trivial⟩)
def VZ:Sig:=.of [D5] [Dx] (fun a=>MZ N a)
theorem VH:Dq 215 (VZ N):=Dw (Dv [(148,Qs N),(291,zC N)] []) ⟨[],[]⟩ Tryz.f215 N (Dp ⟨NT N,Aev N,trivial⟩)
def AbJ:List (Nat×Nrm):=[(49,⟨[1,6],[],[],[],[]⟩)]
def Adg:Lk:=⟨[(49,⟨[(1,.c AU),(6,.c (xo 36864))],[(33024,.box [xs,xb,xs]),(36864,.arr 9 false Aq)]⟩)],[]⟩
def aW:Sig:=.of [Ap2] [D5,Dx] (fun a=>OC N a)
theorem wH:Dq 129 (aW N):=Dw (Dv [(122,Qh N),(123,Ip N),(216,Rl N)] AbJ) Adg Tryz.f129 N (Dp ⟨P9 N,G9 N,Uu N,trivial⟩)
def yY:Sig:=.of [Dx,D5] [Ee] (fun a=>pO N a.1 a.2)
theorem Aeq:Dq 278 (yY N):=Dw (Dv [(360,Aes N),(361,Aer N)] []) ⟨[],[]⟩ Tryz.f278 N (Dp ⟨Ahn N,Ahm N,trivial⟩)
def bD:Sig:=.of [D5] [Ee] (fun a=>Xu N a)
theorem wY:Dq 366 (bD N):=Dw (Dv [(367,eU N),(407,UJ N),(406,Ua N)] []) ⟨[],[]⟩ Tryz.f366 N (Dp ⟨jP N,aG N,RP N,trivial⟩)
def AeN:List (Nat×Nrm):=[(3,⟨[6,7],[],[],[],[]⟩),(37,⟨[4,6,7],[],[],[(38144,1000000),(39680,1000000)],[]⟩),(42,⟨[6,7,38,39,40],[],[],[(44544,1000000)],[]⟩)]
def AgE:Lk:=⟨[(37,⟨[(4,.c AP),(6,.c x64),(7,.c (xo 1000000))],[(33792,.box BO),(1000000,.arr 5 false Ar)]⟩)],[(42,⟨[(6,.i),(7,.c (xo 1000000)),(38,.c (xo 42496)),(39,.i),(40,.c x64)],[(42496,.arr 3 false Az),(1000000,.arr 5 false Ar)]⟩,[(0,⟨[(6,.i),(7,.c (xo 1000000))],[(1000000,.arr 5 false Ar)]⟩)])]⟩
def pY:Sig:=.of [Dx] [D5,Dx] (fun a=>OJ N a)
theorem AbE:Dq 57 (pY N):=Dw (Dv [(126,vN N),(127,AcU N),(123,Ip N)] AeN) AgE Tryz.f57 N (Dp ⟨AcP N,AgG N,G9 N,trivial⟩)
def Aih:List (Nat×Nrm):=[(3,⟨[],[],[],[],[]⟩),(30,⟨[3,15,16,17],[],[],[],[]⟩)]
def AjM:Lk:=⟨[],[(30,⟨[(3,.c (xo 36352)),(15,.i),(16,.i),(17,.c x64)],[(36352,.mp Aq Az)]⟩,[(0,⟨[],[]⟩)])]⟩
def eG:Sig:=.of [.cell false (.sl 176 Tq4)] [Dx] (fun a=>Tj N a)
theorem jK:Dq 128 (eG N):=Dw (Dv [(213,AaH N),(214,Nr N),(215,VZ N)] Aih) AjM Tryz.f128 N (Dp ⟨Afe N,Lr N,VH N,trivial⟩)
def Oi (N:Nat):Alt:=.of [.cell false .str,.cell false (.int .i64)] [Nb,.cell false (.int .i64)] [.cell false .ptr,.cell false (.int .i64)] (fun a=>KF N a.1 a.2)
theorem PV:Spec Tryz.prog 44 (Oi N).1/\Spec Tryz.prog 44 (Oi N).2.1:=NY (C:=ctx Tryz.prog [(73,Hy N)] [] [(104,NH N)]) (L:=⟨[],[]⟩) (fn:=Tryz.f44) (N:=N) (Dp ⟨JR N,trivial⟩ ⟨Sr N,trivial⟩) (by kernel_rfl) (by kernel_rfl) (fun a=>by kernel_rfl)
def ZY:List (Nat×Nrm):=[(3,⟨[6],[([6],143,Tq0,1004096)],[],[(1000000,1004096)],[]⟩),(42,⟨[6,26,27,28],[([6],143,Tq0,1000000)],[],[(43776,1000000)],[]⟩)]
def eF:Lk:=⟨[],[(42,⟨[(6,.c (xo 1000000)),(26,.i),(27,.i),(28,.c x64)],[(1000000,.arr 143 false Tq0)]⟩,[(0,⟨[(6,.c (xo 1004096))],[(1004096,.arr 143 false Tq0)]⟩)])]⟩
def Rq:Sig:=.of [J4] [.cell false (.sl 143 Tq0),Dx] (fun a=>FU N a)
theorem Ye:Dq 194 (Rq N):=Dw (Dv [(192,Io N),(266,dG N),(267,QU N)] ZY) eF Tryz.f194 N (Dp ⟨G8 N,yZ N,Xo N,trivial⟩)
def dZ:List (Nat×Nrm):=[(3,⟨[],[],[],[],[]⟩),(11,⟨[0,13,14,15],[],[],[],[]⟩),(26,⟨[0,13,14,15],[],[],[],[]⟩),(62,⟨[0,4,13,14,15,41,42,43],[],[],[],[]⟩)]
def jI:Lk:=⟨[],[(26,⟨[(0,.i),(13,.i),(14,.i),(15,.c x64)],[]⟩,[(0,⟨[],[]⟩)]),(62,⟨[(0,.i),(4,.c AP),(13,.i),(14,.i),(15,.i),(41,.i),(42,.i),(43,.c x64)],[(33792,.box [xs,x64,xs])]⟩,[(2,⟨[(0,.i),(13,.i),(14,.i),(15,.i)],[]⟩)])]⟩
def Td:Sig:=.of [.cell false (.sl 143 Tq0)] [Dx] (fun a=>LU N a)
theorem YW:Dq 201 (Td N):=Dw (Dv [(214,Nr N),(278,yY N)] dZ) jI Tryz.f201 N (Dp ⟨Lr N,Aeq N,trivial⟩)
def WA:Sig:=.of [Dx,D5,Ee] [Ee] (fun a=>Sv N a.1 a.2.1 a.2.2)
theorem jM:Dq 280 (WA N):=Dw (Dv [(366,bD N),(367,eU N),(368,AaN N),(369,jQ N),(370,wZ N),(371,jO N)] [] [] [] [] [11,14,15,18,21,22,26,29,30,33,36,37,41,44,45,48,51,52]) ⟨[],[]⟩ Tryz.f280 N (Dp ⟨wY N,jP N,Afl N,Aax N,Adt N,Aaw N,trivial⟩)
def AgJ:List (Nat×Nrm):=[(3,⟨[5],[([5],9,Aq,1004096)],[],[(1000000,1004096)],[]⟩),(26,⟨[5,17,18,19],[([5],9,Aq,1000000)],[],[(41216,1000000)],[]⟩)]
def Aij:Lk:=⟨[],[(26,⟨[(5,.c (xo 1000000)),(17,.i),(18,.i),(19,.c x64)],[(1000000,.arr 9 false Aq)]⟩,[(0,⟨[(5,.c (xo 1004096))],[(1004096,.arr 9 false Aq)]⟩)])]⟩
def wF:Sig:=.of [.cell false (.sl 176 Tq4)] [D5,Dx] (fun a=>Yg N a)
theorem Ade:Dq 59 (wF N):=Dw (Dv [(128,eG N),(129,aW N),(123,Ip N)] AgJ) Aij Tryz.f59 N (Dp ⟨jK N,wH N,G9 N,trivial⟩)
def AgI:List (Nat×Nrm):=[(3,⟨[7],[([7],176,Tq4,1004096)],[],[(1000000,1004096)],[]⟩),(46,⟨[7,33,34,35],[([7],176,Tq4,1000000)],[],[(45568,1000000)],[]⟩)]
def Aii:Lk:=⟨[],[(46,⟨[(7,.c (xo 1000000)),(33,.i),(34,.i),(35,.c x64)],[(1000000,.arr 176 false Tq4)]⟩,[(0,⟨[(7,.c (xo 1004096))],[(1004096,.arr 176 false Tq4)]⟩)])]⟩
def wE:Sig:=.of [D5] [.cell false (.sl 176 Tq4),Dx] (fun a=>Yf N a)
theorem Adc:Dq 162 (wE N):=Dw (Dv [(148,Qs N),(192,Io N),(245,aV N),(128,eG N)] AgI) Aii Tryz.f162 N (Dp ⟨NT N,G8 N,wG N,jK N,trivial⟩)
def Rh (N:Nat):Alt:=.of [.cell false .str,.cell false (.int .i64)] [Aey,.cell false (.int .i64)] [.cell false .ptr,.cell false (.int .i64)] (fun a=>KA N a.1 a.2)
theorem sS:Spec Tryz.prog 151 (Rh N).1/\Spec Tryz.prog 151 (Rh N).2.1:=NY (C:=ctx Tryz.prog [(240,LH N)] [] [] [] [23]) (L:=⟨[],[]⟩) (fn:=Tryz.f151) (N:=N) (Dp ⟨Kw N,trivial⟩) (by kernel_rfl) (by kernel_rfl) (fun a=>by kernel_rfl)
def Ul:Sig:=.of [D5,Dx,Dx,D5,D5] [D5] (fun a=>Jl N a.1 a.2.1 a.2.2.1 a.2.2.2.1 a.2.2.2.2)
theorem WL:Dq 178 (Ul N):=Dw (Dv [(258,AaY N),(242,VS N),(240,LH N)] []) ⟨[],[]⟩ Tryz.f178 N (Dp ⟨Af1 N,V8 N,Kw N,trivial⟩)
def Akn:List (Nat×Nrm):=[(3,⟨[5],[],[],[],[]⟩),(10,⟨[0,1,2,4,5,13],[],[],[],[]⟩)]
def AmS:Lk:=⟨[],[(10,⟨[(0,.i),(1,.i),(2,.i),(4,.i),(5,.c xs),(13,.c x64)],[]⟩,[(0,⟨[(5,.c xs)],[]⟩)])]⟩
def Ym:Sig:=.of [D5,Dx,Dx,Dx,Dx,D5] [D5] (fun a=>V9 N a.1 a.2.1 a.2.2.1 a.2.2.2.1 a.2.2.2.2.1 a.2.2.2.2.2)
theorem X0:Dq 256 (Ym N):=Dw (Dv [(349,oC N),(350,Aci N),(240,LH N)] Akn) AmS Tryz.f256 N (Dp ⟨fK N,Abc N,Kw N,trivial⟩)
def Zw:Sig:=.of [D5,Dx,Sq6] [D5] (fun a=>Us N a.1 a.2.1 a.2.2)
theorem bT:Dq 257 (Zw N):=Dw (Dv [(349,oC N),(304,oD N),(240,LH N)] []) ⟨[],[]⟩ Tryz.f257 N (Dp ⟨fK N,qK N,Kw N,trivial⟩)
def Zx:Sig:=.of [D5,Dx,Dx] [D5] (fun a=>Ut N a.1 a.2.1 a.2.2)
theorem bU:Dq 303 (Zx N):=Dw (Dv [(349,oC N),(350,Aci N),(240,LH N)] []) ⟨[],[]⟩ Tryz.f303 N (Dp ⟨fK N,Abc N,Kw N,trivial⟩)
def Uk:Sig:=.of [J4,Dx,D5] [D5] (fun a=>Ij N a.1 a.2.1 a.2.2)
theorem WJ:Dq 177 (Uk N):=Dw (Dv [(242,VS N),(240,LH N)] []) ⟨[],[]⟩ Tryz.f177 N (Dp ⟨V8 N,Kw N,trivial⟩)
def AeV:List (Nat×Nrm):=[(3,⟨[],[],[],[],[]⟩),(18,⟨[11,12,13],[],[],[],[]⟩)]
def AgH:Lk:=⟨[],[(18,⟨[(11,.i),(12,.i),(13,.c x64)],[]⟩,[(0,⟨[],[]⟩)])]⟩
def MC:Sig:=.of [Sq1] [Dx] (fun a=>Hf N a)
theorem LG:Dq 114 (MC N):=Dw (Dv [(201,Td N)] AeV) AgH Tryz.f114 N (Dp ⟨YW N,trivial⟩)
def fZ (N:Nat):Alt:=.of [.cell false .str,.cell false (.int .i64),.cell false (.int .i64)] [Abp,.cell false (.int .i64)] [.cell false .ptr,.cell false (.int .i64)] (fun a=>dF N a.1 a.2.1 a.2.2)
theorem Ahi:Spec Tryz.prog 78 (fZ N).1/\Spec Tryz.prog 78 (fZ N).2.1:=NY (C:=ctx Tryz.prog [(152,KW N)] [] [(151,Rh N)]) (L:=⟨[],[]⟩) (fn:=Tryz.f78) (N:=N) (Dp ⟨LZ N,trivial⟩ ⟨sS N,trivial⟩) (by kernel_rfl) (by kernel_rfl) (fun a=>by kernel_rfl)
def AgZ:List (Nat×Nrm):=[(3,⟨[0,2,9],[],[],[],[]⟩),(26,⟨[0,1,2,9,10],[([9],9,Aq,1000000)],[],[(40960,1000000)],[]⟩)]
def AiW:Lk:=⟨[],[(26,⟨[(0,.i),(1,.i),(2,.i),(9,.c (xo 1000000)),(10,.c x64)],[(1000000,.arr 9 false Aq)]⟩,[(0,⟨[(0,.i),(2,.i),(9,.c (xo 1000000))],[(1000000,.arr 9 false Aq)]⟩)])]⟩
def yA:Sig:=.of [D5,D5,Dx] [D5,Dx] (fun a=>Yl N a.1 a.2.1 a.2.2)
theorem AdO:Dq 259 (yA N):=Dw (Dv [(302,Ur N),(303,Zx N),(256,Ym N),(257,Zw N)] AgZ) AiW Tryz.f259 N (Dp ⟨WO N,bU N,X0 N,bT N,trivial⟩)
def Akl:List (Nat×Nrm):=[(3,⟨[13],[],[],[],[]⟩),(38,⟨[0,1,2,11,13,14],[([13],9,Aq,1000000)],[],[(45056,1000000)],[]⟩)]
def AmQ:Lk:=⟨[],[(38,⟨[(0,.i),(1,.i),(2,.i),(11,.i),(13,.c (xo 1000000)),(14,.c x64)],[(1000000,.arr 9 false Aq)]⟩,[(0,⟨[(13,.c (xo 1000000))],[(1000000,.arr 9 false Aq)]⟩)])]⟩
def AdP:Sig:=.of [D5,D5,Dx,D5] [D5,Dx] (fun a=>o9 N a.1 a.2.1 a.2.2.1 a.2.2.2)
theorem Ahb:Dq 241 (AdP N):=Dw (Dv [(302,Ur N),(255,Zu N),(303,Zx N),(256,Ym N),(304,oD N)] Akl) AmQ Tryz.f241 N (Dp ⟨WO N,bQ N,bU N,X0 N,qK N,trivial⟩)
def Af7:List (Nat×Nrm):=[(3,⟨[0,1,13],[],[],[],[]⟩),(46,⟨[0,1,3,11,13,14],[([13],9,Aq,1000000)],[],[(46336,1000000)],[]⟩)]
def Aha:Lk:=⟨[],[(46,⟨[(0,.i),(1,.i),(3,.i),(11,.i),(13,.c (xo 1000000)),(14,.c x64)],[(1000000,.arr 9 false Aq)]⟩,[(0,⟨[(0,.i),(1,.i),(13,.c (xo 1000000))],[(1000000,.arr 9 false Aq)]⟩)])]⟩
def qJ:Sig:=.of [D5,Dx,D5,D5] [D5,Dx] (fun a=>VU N a.1 a.2.1 a.2.2.1 a.2.2.2)
theorem Ach:Dq 176 (qJ N):=Dw (Dv [(254,Uo N),(255,Zu N),(256,Ym N),(257,Zw N)] Af7) Aha Tryz.f176 N (Dp ⟨WN N,bQ N,X0 N,bT N,trivial⟩)
def Aaq:Sig:=.of [Gy] [Ee] (fun a=>TS N a)
theorem lW:Dq 346 (Aaq N):=Dw (Dv [] []) ⟨[],[]⟩ Tryz.f346 N (Dp trivial)
def XM:Sig:=.of [J4] [D5] (fun a=>P6 N a)
theorem nS:Dq 167 (XM N):=Dw (Dv [] []) ⟨[],[]⟩ Tryz.f167 N (Dp trivial)
def Vf:Sig:=.of [] [Avs] (fun _=>PR N)
theorem XD:Dq 161 (Vf N):=Dw (Dv [] []) ⟨[],[]⟩ Tryz.f161 N (Dp trivial)
def ZT:Sig:=.of [Sq6,Ae0] [] (fun a=>Ku N a.1 a.2)
theorem Xj:Dq 395 (ZT N):=Dw (Dv [] []) ⟨[],[]⟩ Tryz.f395 N (Dp trivial)
def ZR:Sig:=.of [Sq6,Ae0] [] (fun a=>Kt N a.1 a.2)
theorem Xi:Dq 396 (ZR N):=Dw (Dv [] []) ⟨[],[]⟩ Tryz.f396 N (Dp trivial)
def Si:Sig:=.of [D5] [Dx] (fun a=>NF N a)
theorem UT:Dq 399 (Si N):=Dw (Dv [] []) ⟨[],[]⟩ Tryz.f399 N (Dp trivial)
def Aa1:List (Nat×Nrm):=[(3,⟨[],[],[],[],[]⟩),(11,⟨[2,3,20,21],[],[],[],[]⟩),(18,⟨[2,3,20,21],[],[],[],[]⟩),(19,⟨[2,3,5,8,20,21,41,42,43],[],[],[],[]⟩),(38,⟨[2,3,5,20,21,41,42,43],[],[],[],[]⟩),(54,⟨[2,3,5,7,8,20,21,41,42,43,51,52,53],[],[],[],[]⟩)]
def Acr:Lk:=⟨[],[(18,⟨[(2,.c AA),(3,.c AO),(20,.i),(21,.c x64)],[(33280,.box [Bh]),(33536,.box [Bh])]⟩,[(0,⟨[],[]⟩)]),(38,⟨[(2,.c AA),(3,.c AO),(5,.i),(20,.i),(21,.i),(41,.i),(42,.i),(43,.c x64)],[(33280,.box [Bh]),(33536,.box [Bh])]⟩,[(2,⟨[(2,.c AA),(3,.c AO),(20,.i),(21,.i)],[(33280,.box [Bh]),(33536,.box [Bh])]⟩)]),(54,⟨[(2,.c AA),(3,.c AO),(5,.i),(7,.c (.c (.ptr 34560 0))),(8,.c xb),(20,.i),(21,.i),(41,.i),(42,.i),(43,.i),(51,.i),(52,.i),(53,.c x64)],[(33280,.box [Bh]),(33536,.box [Bh]),(34560,.box [xs,x64,xs])]⟩,[(4,⟨[(2,.c AA),(3,.c AO),(5,.i),(8,.c xb),(20,.i),(21,.i),(41,.i),(42,.i),(43,.i)],[(33280,.box [Bh]),(33536,.box [Bh])]⟩)])]⟩
def O6:Sig:=.of [Sq1,Sq1] [Ee] (fun a=>F7 N a.1 a.2)
theorem OZ:Dq 89 (O6 N):=Dw (Dv [] Aa1) Acr Tryz.f89 N (Dp trivial)
def oP:List (Nat×Nrm):=[(3,⟨[],[],[],[],[]⟩),(18,⟨[0,1,12,13],[],[],[],[]⟩)]
def tC:Lk:=⟨[],[(18,⟨[(0,.i),(1,.i),(12,.i),(13,.c x64)],[]⟩,[(0,⟨[],[]⟩)])]⟩
def UY:Sig:=.of [Sq6,Sq6] [Ee] (fun a=>Hr N a.1 a.2)
theorem fV:Dq 169 (UY N):=Dw (Dv [] oP) tC Tryz.f169 N (Dp trivial)
def kQ:List (Nat×Nrm):=[(3,⟨[],[],[],[],[]⟩),(18,⟨[0,1,12,13],[],[],[],[]⟩)]
def oQ:Lk:=⟨[],[(18,⟨[(0,.i),(1,.i),(12,.i),(13,.c x64)],[]⟩,[(0,⟨[],[]⟩)])]⟩
def U1:Sig:=.of [Als,Als] [Ee] (fun a=>JY N a.1 a.2)
theorem aB:Dq 170 (U1 N):=Dw (Dv [] kQ) oQ Tryz.f170 N (Dp trivial)
def ZZ:List (Nat×Nrm):=[(3,⟨[],[],[],[],[]⟩),(18,⟨[0,1,12,13],[],[],[],[]⟩)]
def fU:Lk:=⟨[],[(18,⟨[(0,.i),(1,.i),(12,.i),(13,.c x64)],[]⟩,[(0,⟨[],[]⟩)])]⟩
def RD:Sig:=.of [.cell false (.sl 176 Tq4),.cell false (.sl 176 Tq4)] [Ee] (fun a=>Jg N a.1 a.2)
theorem Yn:Dq 174 (RD N):=Dw (Dv [] ZZ) fU Tryz.f174 N (Dp trivial)
def Ab6:Sig:=.of [Gy] [Ee] (fun a=>Vo N a)
theorem rW:Dq 322 (Ab6 N):=Dw (Dv [] []) ⟨[],[]⟩ Tryz.f322 N (Dp trivial)
def Ab7:Sig:=.of [Gy] [Ee] (fun a=>J7 N a)
theorem rX:Dq 325 (Ab7 N):=Dw (Dv [] []) ⟨[],[]⟩ Tryz.f325 N (Dp trivial)
def Ab8:Sig:=.of [Gy] [Ee] (fun a=>Vp N a)
theorem rY:Dq 328 (Ab8 N):=Dw (Dv [] []) ⟨[],[]⟩ Tryz.f328 N (Dp trivial)
def Ab9:Sig:=.of [Gy] [Ee] (fun a=>Vq N a)
theorem rZ:Dq 331 (Ab9 N):=Dw (Dv [] []) ⟨[],[]⟩ Tryz.f331 N (Dp trivial)
def AbA:Sig:=.of [Gy] [Ee] (fun a=>Vr N a)
theorem sD:Dq 334 (AbA N):=Dw (Dv [] []) ⟨[],[]⟩ Tryz.f334 N (Dp trivial)
def Aan:Sig:=.of [Gy] [Ee] (fun a=>TP N a)
theorem lT:Dq 337 (Aan N):=Dw (Dv [] []) ⟨[],[]⟩ Tryz.f337 N (Dp trivial)
def Aao:Sig:=.of [Gy] [Ee] (fun a=>TQ N a)
theorem lU:Dq 340 (Aao N):=Dw (Dv [] []) ⟨[],[]⟩ Tryz.f340 N (Dp trivial)
def Aap:Sig:=.of [Gy] [Ee] (fun a=>TR N a)
theorem lV:Dq 343 (Aap N):=Dw (Dv [] []) ⟨[],[]⟩ Tryz.f343 N (Dp trivial)
def vW (N n:Nat):Sig:=.of [Gy] [.cell false .bool] (jG N n)
theorem AcW:Qw Tryz.prog (vW N):=Tc (Du:=[Gy]) (DK:=[.cell false .bool]) (l:=[(310,fun a=>Vh N a),(313,fun a=>Vj N a),(316,fun a=>Vk N a),(319,fun a=>Vl N a),(322,fun a=>Vo N a),(325,fun a=>J7 N a),(328,fun a=>Vp N a),(331,fun a=>Vq N a),(334,fun a=>Vr N a),(337,fun a=>TP N a),(340,fun a=>TQ N a),(343,fun a=>TR N a),(346,fun a=>TS N a)]) ⟨rP N,rQ N,rU N,rV N,rW N,rX N,rY N,rZ N,sD N,lT N,lU N,lV N,lW N,trivial⟩
def Oh:Sig:=.of [D5] [Dx,Dx] (fun a=>Lm N a)
theorem OU:Dq 390 (Oh N):=Dw (Dv [(193,QJ N)] []) ⟨[],[]⟩ Tryz.f390 N (Dp ⟨Rk N,trivial⟩)
def AhX (N n:Nat):Sig:=.of [Sq6,Ae0] [] (AnP N n)
theorem AnQ:Qw Tryz.prog (AhX N):=Tc (Du:=[Sq6,Ae0]) (DK:=[]) (l:=[(395,fun a=>Ku N a.1 a.2)]) ⟨Xj N,trivial⟩
def AhY (N n:Nat):Sig:=.of [Sq6,Ae0] [] (AnR N n)
theorem AnS:Qw Tryz.prog (AhY N):=Tc (Du:=[Sq6,Ae0]) (DK:=[]) (l:=[(396,fun a=>Kt N a.1 a.2)]) ⟨Xi N,trivial⟩
def kM:List (Nat×Nrm):=[(3,⟨[],[],[],[],[]⟩),(18,⟨[0,1,12,13],[],[],[],[]⟩)]
def oM:Lk:=⟨[],[(18,⟨[(0,.i),(1,.i),(12,.i),(13,.c x64)],[]⟩,[(0,⟨[],[]⟩)])]⟩
def KY:Sig:=.of [.cell false (.sl 84 Tq1),.cell false (.sl 84 Tq1)] [Ee] (fun a=>Fb N a.1 a.2)
theorem Mc:Dq 171 (KY N):=Dw (Dv [(89,O6 N)] kM) oM Tryz.f171 N (Dp ⟨OZ N,trivial⟩)
def vH:Sig:=.of [.box [(false,.bool)],Gy] [D5] (fun a=>LD N a.1 a.2)
theorem jA:Dq 314 (vH N):=Dw (Dv [(218,Uw N),(55,EY N),(58,EN N)] []) ⟨[],[]⟩ Tryz.f314 N (Dp ⟨WR N,EM N,EG N,trivial⟩)
def lS:Sig:=.of [.box [(false,.bool)],Gy] [D5] (fun a=>JP N a.1 a.2)
theorem ZW:Dq 338 (lS N):=Dw (Dv [(58,EN N)] []) ⟨[],[]⟩ Tryz.f338 N (Dp ⟨EG N,trivial⟩)
def pW:Sig:=.of [Nb] [Dx,Dx] (fun a=>VK N a)
theorem Aby:Dq 157 (pW N):=Dw (Dv [(45,FO N),(193,QJ N)] []) ⟨[],[]⟩ Tryz.f157 N (Dp ⟨Fz N,Rk N,trivial⟩)
def jT:Sig:=.of [Alu,J4] [Dx] (fun a=>Jy N a.1 a.2)
theorem Zl:Dq 306 (jT N):=Dw (Dv [(113,VW N),(165,NK N)] []) ⟨[],[]⟩ Tryz.f306 N (Dp ⟨VA N,Nz N,trivial⟩)
def Pv:Sig:=.of [Nb] [D5,Dx] (fun a=>MB N a)
theorem PS:Dq 393 (Pv N):=Dw (Dv [(45,FO N),(200,Qg N)] []) ⟨[],[]⟩ Tryz.f393 N (Dp ⟨Fz N,P8 N,trivial⟩)
def YB:Sig:=.of [Nb] [D5,Dx] (fun a=>Q4 N a)
theorem qX:Dq 84 (YB N):=Dw (Dv [(45,FO N),(113,VW N)] []) ⟨[],[]⟩ Tryz.f84 N (Dp ⟨Fz N,VA N,trivial⟩)
def U0:Sig:=.of [Aez,Aez] [Ee] (fun a=>JX N a.1 a.2)
theorem aA:Dq 172 (U0 N):=Dw (Dv [(171,KY N)] []) ⟨[],[]⟩ Tryz.f172 N (Dp ⟨Mc N,trivial⟩)
def sZ:List (Nat×Nrm):=[(3,⟨[],[],[],[],[]⟩),(18,⟨[0,1,12,13],[],[],[],[]⟩)]
def yL:Lk:=⟨[],[(18,⟨[(0,.i),(1,.i),(12,.i),(13,.c x64)],[]⟩,[(0,⟨[],[]⟩)])]⟩
def WV:Sig:=.of [.cell false (.sl 153 Tq2),.cell false (.sl 153 Tq2)] [Ee] (fun a=>GZ N a.1 a.2)
theorem kP:Dq 173 (WV N):=Dw (Dv [(171,KY N),(89,O6 N)] sZ [] [] [] [28,40,41,53,54,67]) yL Tryz.f173 N (Dp ⟨Mc N,OZ N,trivial⟩)
def AdE:Sig:=.of [TF] [J4] (fun a=>nV N a)
theorem AgQ:Dq 71 (AdE N):=Dw (Dv [(35,EX N),(22,VR N)] []) ⟨[],[]⟩ Tryz.f71 N (Dp ⟨EL N,V6 N,trivial⟩)
def AaT:Sig:=.of [TF] [Sq2] (fun a=>Tu N a)
theorem Afu:Dq 238 (AaT N):=Dw (Dv [(35,EX N),(70,VQ N)] []) ⟨[],[]⟩ Tryz.f238 N (Dp ⟨EL N,V4 N,trivial⟩)
def rC:List (Nat×Nrm):=[(3,⟨[],[],[],[],[]⟩),(11,⟨[0,13,14,15],[],[],[],[]⟩),(18,⟨[0,13,14,15],[],[],[],[]⟩),(38,⟨[0,6,13,14,15,25,26,27],[],[],[],[]⟩)]
def uT:Lk:=⟨[],[(18,⟨[(0,.i),(13,.i),(14,.i),(15,.c x64)],[]⟩,[(0,⟨[],[]⟩)]),(38,⟨[(0,.i),(6,.i),(13,.i),(14,.i),(15,.i),(25,.i),(26,.i),(27,.c x64)],[]⟩,[(2,⟨[(0,.i),(13,.i),(14,.i),(15,.i)],[]⟩)])]⟩
def Ws:Sig:=.of [Sq6,Dx] [Dx] (fun a=>Iu N a.1 a.2)
theorem gY:Dq 248 (Ws N):=Dw (Dv [(214,Nr N)] rC) uT Tryz.f248 N (Dp ⟨Lr N,trivial⟩)
def YE:List (Nat×Nrm):=[(3,⟨[],[],[],[],[]⟩),(11,⟨[0,10,11,12],[],[],[],[]⟩),(18,⟨[0,10,11,12],[],[],[],[]⟩),(38,⟨[0,4,10,11,12,29,30,31],[],[],[],[]⟩)]
def ZN:Lk:=⟨[],[(18,⟨[(0,.i),(10,.i),(11,.i),(12,.c x64)],[]⟩,[(0,⟨[],[]⟩)]),(38,⟨[(0,.i),(4,.c AP),(10,.i),(11,.i),(12,.i),(29,.i),(30,.i),(31,.c x64)],[(33792,.box [xs,xs])]⟩,[(2,⟨[(0,.i),(10,.i),(11,.i),(12,.i)],[]⟩)])]⟩
def QS:Sig:=.of [Als] [Dx] (fun a=>I5 N a)
theorem Xh:Dq 249 (QS N):=Dw (Dv [(214,Nr N)] YE) ZN Tryz.f249 N (Dp ⟨Lr N,trivial⟩)
def rH:List (Nat×Nrm):=[(17,⟨[0,3,5],[],[],[],[]⟩)]
def vC:Lk:=⟨[(17,⟨[(0,.c AB),(3,.c AO),(5,.c xs)],[(0,.box [xb]),(33536,.box Bq)]⟩)],[]⟩
def vF:Sig:=.of [.box [(false,.bool)],Gy] [D5] (fun a=>L9 N a.1 a.2)
theorem iP:Dq 311 (vF N):=Dw (Dv [(53,Ol N),(219,XG N),(52,FD N)] rH) vC Tryz.f311 N (Dp ⟨OX N,mF N,Fg N,trivial⟩)
def Px:Sig:=.of [.box [(false,.bool)],D5] [D5] (fun a=>KE N a.1 a.2)
theorem PT:Dq 391 (Px N):=Dw (Dv [(122,Qh N),(55,EY N),(58,EN N)] []) ⟨[],[]⟩ Tryz.f391 N (Dp ⟨P9 N,EM N,EG N,trivial⟩)
def lQ:List (Nat×Nrm):=[(3,⟨[0,5],[],[],[],[]⟩),(14,⟨[0,5,13,14,15],[],[],[],[]⟩)]
def rJ:Lk:=⟨[],[(14,⟨[(0,.c AB),(5,.c (xo 34816)),(13,.c (xo 36096)),(14,.i),(15,.c x64)],[(0,.box [xb]),(34816,.arr 9 false Aq),(36096,.arr 3 false Az)]⟩,[(0,⟨[(0,.c AB),(5,.c (xo 34816))],[(0,.box [xb]),(34816,.arr 9 false Aq)]⟩)])]⟩
def rM:Sig:=.of [.box [(false,.bool)],Gy] [D5] (fun a=>KP N a.1 a.2)
theorem dU:Dq 326 (rM N):=Dw (Dv [(119,Rn N),(58,EN N),(52,FD N)] lQ) rJ Tryz.f326 N (Dp ⟨Ux N,EG N,Fg N,trivial⟩)
def Afy:List (Nat×Nrm):=[(3,⟨[3],[([3],153,Tq2,1008192)],[],[(1000000,1008192)],[]⟩),(14,⟨[0,3,4],[([3],153,Tq2,1000000)],[],[(41216,1000000)],[]⟩),(33,⟨[0,3,4,5],[([3],153,Tq2,1004096)],[(some 34048,3,Au)],[(1000000,1004096)],[]⟩)]
def AgR:Lk:=⟨[(33,⟨[(0,.c AB),(3,.c (xo 1004096)),(4,.i),(5,.c AQ)],[(0,.box BD),(34048,.box [(xo 36608),x64,xb,Bh]),(36608,.arr 84 false Tq1),(1004096,.arr 153 false Tq2)]⟩)],[(14,⟨[(0,.c AB),(3,.c (xo 1000000)),(4,.c x64)],[(0,.box BD),(1000000,.arr 153 false Tq2)]⟩,[(0,⟨[(3,.c (xo 1008192))],[(0,.box BD),(1008192,.arr 153 false Tq2)]⟩)])]⟩
def qF:Sig:=.of [TF] [.cell false (.sl 153 Tq2)] (fun a=>Ru N a)
theorem AbX:Dq 38 (qF N):=Dw (Dv [(35,EX N),(37,V3 N),(29,S9 N)] Afy) AgR Tryz.f38 N (Dp ⟨EL N,XN N,UW N,trivial⟩)
def AbV:List (Nat×Nrm):=[(3,⟨[0,2,3],[],[],[(33637,1004096),(1000000,1004096)],[]⟩),(11,⟨[0,2,3],[],[],[(33638,1012288),(1008192,1012288)],[]⟩),(14,⟨[0,2,3,4],[],[],[(33637,1000000),(37376,1000000)],[]⟩),(30,⟨[0,2,3,5],[],[],[(33638,1008192),(40704,1008192)],[]⟩)]
def AdF:Lk:=⟨[],[(14,⟨[(0,.c AB),(2,.c AA),(3,.c AO),(4,.c x64)],[(0,.box BD),(33280,.box BJ),(33281,.Ef 84 false Tq1),(33282,.Ef 84 false Tq1),(33536,.box [(xo 1000000),(xo 33638)]),(33638,.Ef 84 false Tq1),(1000000,.arr 84 false Tq1)]⟩,[(0,⟨[(0,.c AB),(2,.c AA),(3,.c AO)],[(0,.box BD),(33280,.box BJ),(33281,.Ef 84 false Tq1),(33282,.Ef 84 false Tq1),(33536,.box [(xo 1004096),(xo 33638)]),(33638,.Ef 84 false Tq1),(1004096,.arr 84 false Tq1)]⟩)]),(30,⟨[(0,.c AB),(2,.c AA),(3,.c AO),(5,.c x64)],[(0,.box BD),(33280,.box BJ),(33281,.Ef 84 false Tq1),(33282,.Ef 84 false Tq1),(33536,.box [(xo 1004096),(xo 1008192)]),(1004096,.arr 84 false Tq1),(1008192,.arr 84 false Tq1)]⟩,[(2,⟨[(0,.c AB),(2,.c AA),(3,.c AO)],[(0,.box BD),(33280,.box BJ),(33281,.Ef 84 false Tq1),(33282,.Ef 84 false Tq1),(33536,.box [(xo 1004096),(xo 1012288)]),(1004096,.arr 84 false Tq1),(1012288,.arr 84 false Tq1)]⟩)])]⟩
def bI:Sig:=.of [TF] [Aez] (fun a=>RS N a)
theorem xK:Dq 147 (bI N):=Dw (Dv [(35,EX N),(238,AaT N)] AbV) AdF Tryz.f147 N (Dp ⟨EL N,Afu N,trivial⟩)
def ZP:List (Nat×Nrm):=[(3,⟨[],[],[],[],[]⟩),(10,⟨[0,10,11,12],[],[],[],[]⟩),(11,⟨[0,4,10,11,12],[],[],[],[]⟩),(42,⟨[0,4,10,11,12,30,31,32],[],[],[],[]⟩)]
def dM:Lk:=⟨[],[(10,⟨[(0,.i),(10,.i),(11,.i),(12,.c x64)],[]⟩,[(0,⟨[],[]⟩)]),(42,⟨[(0,.i),(4,.c AP),(10,.i),(11,.i),(12,.i),(30,.i),(31,.i),(32,.c x64)],[(33792,.box [xs,xb,xs])]⟩,[(2,⟨[(0,.i),(4,.c AP),(10,.i),(11,.i),(12,.i)],[(33792,.box [xs,xb,xs])]⟩)])]⟩
def Ro:Sig:=.of [.cell false (.sl 176 Tq4)] [Dx] (fun a=>Oe N a)
theorem Yb:Dq 253 (Ro N):=Dw (Dv [(214,Nr N),(308,Vg N),(215,VZ N)] ZP) dM Tryz.f253 N (Dp ⟨Lr N,XE N,VH N,trivial⟩)
def Zk:Sig:=.of [J4] [D5,Dx] (fun a=>QF N a)
theorem sN:Dq 87 (Zk N):=Dw (Dv [(165,NK N),(167,XM N),(76,VC N),(123,Ip N),(54,LV N)] []) ⟨[],[]⟩ Tryz.f87 N (Dp ⟨Nz N,nS N,XQ N,G9 N,Np N,trivial⟩)
def dY:List (Nat×Nrm):=[(3,⟨[0,5],[([5],9,Aq,1004096)],[],[(1000000,1004096)],[]⟩),(14,⟨[0,5,9,10,11],[([5],9,Aq,1000000)],[],[(37888,1000000)],[]⟩)]
def iY:Lk:=⟨[],[(14,⟨[(0,.c AB),(5,.c (xo 1000000)),(9,.i),(10,.i),(11,.c x64)],[(0,.box [xb]),(1000000,.arr 9 false Aq)]⟩,[(0,⟨[(0,.c AB),(5,.c (xo 1004096))],[(0,.box [xb]),(1004096,.arr 9 false Aq)]⟩)])]⟩
def iZ:Sig:=.of [.box [(false,.bool)],Gy] [D5] (fun a=>Jv N a.1 a.2)
theorem YP:Dq 317 (iZ N):=Dw (Dv [(391,Px N),(52,FD N)] dY) iY Tryz.f317 N (Dp ⟨PT N,Fg N,trivial⟩)
def dX:List (Nat×Nrm):=[(3,⟨[0,5],[([5],9,Aq,1004096)],[],[(1000000,1004096)],[]⟩),(14,⟨[0,5,9,10,11],[([5],9,Aq,1000000)],[],[(38656,1000000)],[]⟩)]
def iV:Lk:=⟨[],[(14,⟨[(0,.c AB),(5,.c (xo 1000000)),(9,.i),(10,.i),(11,.c x64)],[(0,.box [xb]),(1000000,.arr 9 false Aq)]⟩,[(0,⟨[(0,.c AB),(5,.c (xo 1004096))],[(0,.box [xb]),(1004096,.arr 9 false Aq)]⟩)])]⟩
def iW:Sig:=.of [.box [(false,.bool)],Gy] [D5] (fun a=>Ju N a.1 a.2)
theorem YO:Dq 320 (iW N):=Dw (Dv [(391,Px N),(52,FD N)] dX) iV Tryz.f320 N (Dp ⟨PT N,Fg N,trivial⟩)
def dV:List (Nat×Nrm):=[(3,⟨[0,5],[([5],9,Aq,1004096)],[],[(1000000,1004096)],[]⟩),(14,⟨[0,5,9,10,11],[([5],9,Aq,1000000)],[],[(39936,1000000)],[]⟩)]
def iR:Lk:=⟨[],[(14,⟨[(0,.c AB),(5,.c (xo 1000000)),(9,.i),(10,.i),(11,.c x64)],[(0,.box [xb]),(1000000,.arr 9 false Aq)]⟩,[(0,⟨[(0,.c AB),(5,.c (xo 1004096))],[(0,.box [xb]),(1004096,.arr 9 false Aq)]⟩)])]⟩
def iT:Sig:=.of [.box [(false,.bool)],Gy] [D5] (fun a=>Jt N a.1 a.2)
theorem YN:Dq 323 (iT N):=Dw (Dv [(391,Px N),(52,FD N)] dV) iR Tryz.f323 N (Dp ⟨PT N,Fg N,trivial⟩)
def RZ:Sig:=.of [Nb] [Dx] (fun a=>J6 N a)
theorem UR:Dq 83 (RZ N):=Dw (Dv [(105,Oj N),(112,LM N)] []) ⟨[],[]⟩ Tryz.f83 N (Dp ⟨OV N,NW N,trivial⟩)
def aT:Sig:=.of [Nb] [Dx] (fun a=>RJ N a)
theorem uS:Dq 156 (aT N):=Dw (Dv [(45,FO N),(73,Hy N),(193,QJ N)] []) ⟨[],[]⟩ Tryz.f156 N (Dp ⟨Fz N,JR N,Rk N,trivial⟩)
def Xw:Sig:=.of [Alu,J4] [Dx] (fun a=>GX N a.1 a.2)
theorem UQ:Dq 305 (Xw N):=Dw (Dv [(112,LM N)] []) ⟨[],[]⟩ Tryz.f305 N (Dp ⟨NW N,trivial⟩)
def uX:Sig:=.of [D5,QX] [Dx] (fun a=>L6 N a.1 a.2)
theorem iL:Dq 315 (uX N):=Dw (Dv [(73,Hy N),(357,Z4 N)] []) ⟨[],[]⟩ Tryz.f315 N (Dp ⟨JR N,bV N,trivial⟩)
def lK:Sig:=.of [D5,QX] [Dx] (fun a=>JL N a.1 a.2)
theorem ZQ:Dq 330 (lK N):=Dw (Dv [(73,Hy N),(390,Oh N)] []) ⟨[],[]⟩ Tryz.f330 N (Dp ⟨JR N,OU N,trivial⟩)
def lM:Sig:=.of [D5,QX] [Dx] (fun a=>JM N a.1 a.2)
theorem ZU:Dq 339 (lM N):=Dw (Dv [(73,Hy N),(399,Si N)] []) ⟨[],[]⟩ Tryz.f339 N (Dp ⟨JR N,UT N,trivial⟩)
def AiC:List (Nat×Nrm):=[(3,⟨[2,3],[],[],[],[]⟩),(14,⟨[0,2,3,4],[],[],[],[]⟩),(41,⟨[0,2,3,4,13,27],[],[],[],[]⟩)]
def Ake:Lk:=⟨[(41,⟨[(0,.c AB),(2,.c AA),(3,.c AO),(4,.i),(13,.i),(27,.c xb)],[(0,.box BD),(33280,.box Bo),(33285,.Ef 9 false Aq),(33286,.Ef 9 false Aq),(33287,.Ef 267 false (.str Aq)),(33291,.Ef 84 false Tq1),(33293,.Ef 84 false Tq1),(33294,.Ef 84 false Tq1),(33297,.Ef 153 false Tq2),(33298,.Ef 153 false Tq2),(33299,.Ef 176 false Tq4),(33536,.box Bq)]⟩)],[(14,⟨[(0,.c AB),(2,.c AA),(3,.c AO),(4,.c x64)],[(0,.box BD),(33280,.box Bo),(33285,.Ef 9 false Aq),(33286,.Ef 9 false Aq),(33287,.Ef 267 false (.str Aq)),(33291,.Ef 84 false Tq1),(33293,.Ef 84 false Tq1),(33294,.Ef 84 false Tq1),(33297,.Ef 153 false Tq2),(33298,.Ef 153 false Tq2),(33299,.Ef 176 false Tq4),(33536,.box Bq)]⟩,[(0,⟨[(2,.c AA),(3,.c AO)],[(0,.box BD),(33280,.box Bo),(33285,.Ef 9 false Aq),(33286,.Ef 9 false Aq),(33287,.Ef 267 false (.str Aq)),(33291,.Ef 84 false Tq1),(33293,.Ef 84 false Tq1),(33294,.Ef 84 false Tq1),(33297,.Ef 153 false Tq2),(33298,.Ef 153 false Tq2),(33299,.Ef 176 false Tq4),(33536,.box Bq)]⟩)])]⟩
def AaU:Sig:=.of [TF] [Gy] (fun a=>bH N a)
theorem Afv:Dq 72 (AaU N):=Dw (Dv [(144,yK N),(35,EX N),(145,AaW N),(146,bJ N),(37,V3 N),(147,bI N),(38,qF N)] AiC) Ake Tryz.f72 N (Dp ⟨Aei N,EL N,Afx N,xM N,XN N,xK N,AbX N,trivial⟩)
def AaE:Sig:=.of [Nb] [Dx,Dx] (fun a=>Wq N a)
theorem AeE:Dq 243 (AaE N):=Dw (Dv [(105,Oj N),(195,pX N)] []) ⟨[],[]⟩ Tryz.f243 N (Dp ⟨OV N,AbD N,trivial⟩)
def AfZ (N n:Nat):Sig:=.of [Alu,J4] [.cell false (.int .i64)] (Yu N n)
theorem AlR:Qw Tryz.prog (AfZ N):=Tc (Du:=[Alu,J4]) (DK:=[.cell false (.int .i64)]) (l:=[(305,fun a=>GX N a.1 a.2),(306,fun a=>Jy N a.1 a.2)]) ⟨UQ N,Zl N,trivial⟩
def uU:Sig:=.of [D5,QX] [Dx] (fun a=>Lt N a.1 a.2)
theorem iE:Dq 312 (uU N):=Dw (Dv [(356,XF N),(109,J8 N),(390,Oh N),(49,FM N)] [] [(44,Oi N)]) ⟨[],[]⟩ Tryz.f312 N (Dp ⟨mD N,Jw N,OU N,Fv N,trivial⟩ ⟨PV N,trivial⟩)
def Ll (N:Nat):Alt:=.of [.cell false .str] [Nb,.cell false (.int .i64)] [.cell false .ptr,.cell false (.int .i64)] (fun a=>L8 N a)
theorem Og:Spec Tryz.prog 392 (Ll N).1/\Spec Tryz.prog 392 (Ll N).2.1:=NY (C:=ctx Tryz.prog [(196,Jh N)] [] [(44,Oi N)]) (L:=⟨[],[]⟩) (fn:=Tryz.f392) (N:=N) (Dp ⟨Jc N,trivial⟩ ⟨PV N,trivial⟩) (by kernel_rfl) (by kernel_rfl) (fun a=>by kernel_rfl)
def dO:Sig:=.of [D5,QX] [Dx] (fun a=>Ja N a.1 a.2)
theorem Yc:Dq 342 (dO N):=Dw (Dv [(45,FO N),(399,Si N),(49,FM N)] [] [(44,Oi N)]) ⟨[],[]⟩ Tryz.f342 N (Dp ⟨Fz N,UT N,Fv N,trivial⟩ ⟨PV N,trivial⟩)
def rG:List (Nat×Nrm):=[(3,⟨[],[],[],[(517,1012336),(518,1012320),(519,1012304),(531,1012288),(1000000,1012288),(1000016,1012304),(1000032,1012320),(1000048,1012336)],[]⟩),(11,⟨[1,2,7,9,11],[([11],9,Aq,1008192)],[],[(517,1008256),(518,1008240),(519,1008224),(531,1008208),(1004096,1008192),(1004112,1008208),(1004128,1008224),(1004144,1008240),(1004160,1008256)],[]⟩),(18,⟨[1,2,7],[],[],[(517,1000048),(518,1000032),(519,1000016),(531,1000000),(617,1000048),(618,1000032),(619,1000016),(631,1000000)],[]⟩),(38,⟨[1,2,7,9,11],[([11],9,Aq,1004096)],[],[(517,1004160),(518,1004144),(519,1004128),(531,1004112),(45312,1004096),(1000000,1004112),(1000016,1004128),(1000032,1004144),(1000048,1004160)],[]⟩)]
def uZ:Lk:=⟨[],[(18,⟨[(1,.i),(2,.c (.c (.clo 397 512))),(7,.c AV)],[(512,.box Bz),(37120,.box [Bg]),(1000000,.arr 176 true Tq4),(1000016,.arr 267 true (.str Aq)),(1000032,.arr 9 true Aq),(1000048,.arr 9 true Aq)]⟩,[(0,⟨[],[(512,.box BA),(1012288,.arr 176 true Tq4),(1012304,.arr 267 true (.str Aq)),(1012320,.arr 9 true Aq),(1012336,.arr 9 true Aq)]⟩)]),(38,⟨[(1,.i),(2,.c (.c (.clo 397 512))),(7,.c AV),(9,.c Ba),(11,.c (xo 1004096))],[(512,.box BB),(37120,.box [Bg]),(39936,.box [Bg]),(1004096,.arr 9 false Aq),(1004112,.arr 176 true Tq4),(1004128,.arr 267 true (.str Aq)),(1004144,.arr 9 true Aq),(1004160,.arr 9 true Aq)]⟩,[(2,⟨[(1,.i),(2,.c (.c (.clo 397 512))),(7,.c AV),(9,.c Ba),(11,.c (xo 1008192))],[(512,.box BC),(37120,.box [Bg]),(39936,.box [Bg]),(1008192,.arr 9 false Aq),(1008208,.arr 176 true Tq4),(1008224,.arr 267 true (.str Aq)),(1008240,.arr 9 true Aq),(1008256,.arr 9 true Aq)]⟩)])]⟩
def Wx:Sig:=.of [D5,Dx,Avu] [Dx] (fun a=>Sm N a.1 a.2.1 a.2.2)
theorem iO:Spec Tryz.prog 394 (Wx N):=Le (C:=ctx Tryz.prog [(196,Jh N),(393,Pv N),(49,FM N)] rG [(392,Ll N),(197,H5 N)] [(55,AhY N)]) (L:=uZ) (fn:=Tryz.f394) (N:=N+1) (Dp ⟨Jc N,PS N,Fv N,trivial⟩ ⟨Og N,Kv N,trivial⟩ ⟨AnS N,trivial⟩)
def lL:List (Nat×Nrm):=[(22,⟨[5,25,26,27],[],[],[],[]⟩)]
def rD:Sig:=.of [D5,QX] [Dx] (fun a=>KN N a.1 a.2)
theorem dP:Spec Tryz.prog 327 (rD N):=Le (C:=ctx Tryz.prog [(109,J8 N),(390,Oh N),(49,FM N)] lL [(392,Ll N)]) (L:=⟨[],[]⟩) (fn:=Tryz.f327) (N:=N+9) (Dp ⟨Jw N,OU N,Fv N,trivial⟩ ⟨Og N,trivial⟩)
def OD:Sig:=.of [Sq2,Ee] [Dx] (fun a=>GH N a.1 a.2)
theorem Oo:Dq 202 (OD N):=Dw (Dv [(279,Adn N),(114,MC N),(280,WA N)] []) ⟨[],[]⟩ Tryz.f202 N (Dp ⟨AgK N,LG N,jM N,trivial⟩)
def AcY:List (Nat×Nrm):=[(3,⟨[5],[([5],9,Aq,1012288)],[],[(1000000,1012288)],[]⟩),(11,⟨[5,8,21,22,23],[([8],9,Aq,1008192),([5],9,Aq,1008208)],[],[(1004096,1008192),(1004112,1008208)],[]⟩),(26,⟨[5,21,22,23],[([5],9,Aq,1000000)],[],[(47872,1000000)],[]⟩),(42,⟨[5,8,21,22,23,27,28,29],[([8],9,Aq,1004096),([5],9,Aq,1004112)],[],[(44032,1004096),(1000000,1004112)],[]⟩)]
def AeX:Lk:=⟨[],[(26,⟨[(5,.c (xo 1000000)),(21,.i),(22,.i),(23,.c x64)],[(1000000,.arr 9 false Aq)]⟩,[(0,⟨[(5,.c (xo 1012288))],[(1012288,.arr 9 false Aq)]⟩)]),(42,⟨[(5,.c (xo 1004112)),(8,.c (xo 1004096)),(21,.i),(22,.i),(23,.i),(27,.i),(28,.i),(29,.c x64)],[(1004096,.arr 9 false Aq),(1004112,.arr 9 false Aq)]⟩,[(2,⟨[(5,.c (xo 1008208)),(8,.c (xo 1008192)),(21,.i),(22,.i),(23,.i)],[(1008192,.arr 9 false Aq),(1008208,.arr 9 false Aq)]⟩)])]⟩
def Vw:Sig:=.of [Sq1] [D5,Dx] (fun a=>NI N a)
theorem XI:Dq 56 (Vw N):=Dw (Dv [(114,MC N),(124,QV N),(125,gI N),(123,Ip N)] AcY) AeX Tryz.f56 N (Dp ⟨LG N,Xp N,AfM N,G9 N,trivial⟩)
def AcX:List (Nat×Nrm):=[(3,⟨[2,4,8],[],[],[(34817,1004096),(1000000,1004096)],[]⟩),(50,⟨[2,4,8,37,38,39],[],[],[(34817,1000000),(47104,1000000)],[]⟩)]
def AeW:Lk:=⟨[],[(50,⟨[(2,.c AA),(4,.c AP),(8,.c AX),(37,.i),(38,.i),(39,.c x64)],[(33280,.box BM),(33281,.Ef 144 false Au),(33792,.box [(xo 33793)]),(33793,.Ef 144 false Au),(34816,.box [(xo 1000000)]),(1000000,.arr 144 false Au)]⟩,[(0,⟨[(2,.c AA),(4,.c AP),(8,.c AX)],[(33280,.box BM),(33281,.Ef 144 false Au),(33792,.box [(xo 33793)]),(33793,.Ef 144 false Au),(34816,.box [(xo 1004096)]),(1004096,.arr 144 false Au)]⟩)])]⟩
def Vu:Sig:=.of [D5] [Sq1,Dx] (fun a=>PW N a)
theorem XH:Dq 107 (Vu N):=Dw (Dv [(148,Qs N),(192,Io N),(194,Rq N),(114,MC N)] AcX) AeW Tryz.f107 N (Dp ⟨NT N,G8 N,Ye N,LG N,trivial⟩)
def UF (N:Nat):Alt:=.of [.cell false .str,.cell false (.int .i64)] [Abp,.cell false (.int .i64)] [.cell false .ptr,.cell false (.int .i64)] (fun a=>KZ N a.1 a.2)
theorem kT:Spec Tryz.prog 21 (UF N).1/\Spec Tryz.prog 21 (UF N).2.1:=NY (C:=ctx Tryz.prog [] [] [(78,fZ N)]) (L:=⟨[],[]⟩) (fn:=Tryz.f21) (N:=N) (Dp trivial ⟨Ahi N,trivial⟩) (by kernel_rfl) (by kernel_rfl) (fun a=>by kernel_rfl)
def sV:List (Nat×Nrm):=[(3,⟨[0,2],[([2],9,Aq,1004096)],[],[(1000000,1004096)],[]⟩),(11,⟨[],[],[],[(44032,1020480),(1008192,1020480)],[]⟩),(14,⟨[0,2,3],[([2],9,Aq,1000000)],[],[(43264,1000000)],[]⟩),(19,⟨[0,6,7],[([7],9,Aq,1016384)],[],[(44032,1016400),(1012288,1016384),(1012304,1016400)],[]⟩),(38,⟨[0,2,6],[],[],[(44032,1008192),(56576,1008192),(1016384,1004096)],[]⟩),(54,⟨[0,2,6,7,8],[([7],9,Aq,1012288)],[],[(44032,1012304),(54016,1012288),(1008192,1012304)],[]⟩)]
def xU:Lk:=⟨[],[(14,⟨[(0,.c AB),(2,.c (xo 1000000)),(3,.c x64)],[(0,.box BG),(1000000,.arr 9 false Aq)]⟩,[(0,⟨[(0,.c AB),(2,.c (xo 1004096))],[(0,.box BG),(1004096,.arr 9 false Aq)]⟩)]),(38,⟨[(0,.c AB),(2,.c (xo 1004096)),(6,.c x64)],[(0,.box [(xo 1008192),xs,xs,x64]),(1004096,.arr 9 true Aq),(1008192,.arr 39 false (.sl 9 Aq .nil))]⟩,[(2,⟨[],[(0,.box [(xo 1020480),xs,xs,x64]),(1020480,.arr 39 false (.sl 9 Aq .nil))]⟩)]),(54,⟨[(0,.c AB),(2,.c (xo 1004096)),(6,.i),(7,.c (xo 1012288)),(8,.c x64)],[(0,.box [(xo 1012304),xs,xs,x64]),(1004096,.arr 9 true Aq),(1012288,.arr 9 false Aq),(1012304,.arr 39 false (.sl 9 Aq .nil))]⟩,[(4,⟨[(0,.c AB),(6,.i),(7,.c (xo 1016384))],[(0,.box [(xo 1016400),xs,xs,x64]),(1016384,.arr 9 false Aq),(1016400,.arr 39 false (.sl 9 Aq .nil))]⟩)])]⟩
def WH:Sig:=.of [Aey] [] (fun a=>Fh N a)
theorem jZ:Dq 180 (WH N):=Dw (Dv [(259,yA N),(178,Ul N)] sV) xU Tryz.f180 N (Dp ⟨AdO N,WL N,trivial⟩)
def Acb:List (Nat×Nrm):=[(3,⟨[3,10],[],[],[],[]⟩),(58,⟨[3,10,12,13,14],[],[],[],[]⟩),(61,⟨[3,10,12,13,14],[],[],[],[]⟩)]
def AdI:Lk:=⟨[(61,⟨[(3,.c AO),(10,.c xs),(12,.i),(13,.i),(14,.i)],[(33536,.box BP)]⟩)],[(58,⟨[(3,.c AO),(10,.c xs),(12,.i),(13,.c x64),(14,.c x64)],[(33536,.box BP)]⟩,[(0,⟨[(3,.c AO),(10,.c xs)],[(33536,.box BP)]⟩)])]⟩
def bK:Sig:=.of [J4,D5,D5] [Dx] (fun a=>MF N a.1 a.2.1 a.2.2)
theorem xW:Dq 91 (bK N):=Dw (Dv [(165,NK N),(175,qG N),(177,Uk N),(176,qJ N),(178,Ul N)] Acb) AdI Tryz.f91 N (Dp ⟨Nz N,Aca N,WJ N,Ach N,WL N,trivial⟩)
def AiB:List (Nat×Nrm):=[(17,⟨[2,3],[],[],[],[]⟩)]
def Akd:Lk:=⟨[(17,⟨[(2,.c AA),(3,.c AO)],[(0,.box BD),(33280,.box [A8,A8,A7,(xo 33284),(xo 33285),A7,A7,A7,A8,A8,AL,AL,A7,A7,(xo 33295),(xo 33296),(xo 33297),A7,A7,A7,(xo 33301),AL,(xo 33303),(xo 33304),A8,A8,(xo 33307),(xo 33308),(xo 33309),A8]),(33284,.Ef 144 false Au),(33285,.Ef 144 false Au),(33295,.Ef 9 false Aq),(33296,.Ef 9 false Aq),(33297,.Ef 267 false (.str Aq)),(33301,.Ef 84 false Tq1),(33303,.Ef 84 false Tq1),(33304,.Ef 84 false Tq1),(33307,.Ef 153 false Tq2),(33308,.Ef 153 false Tq2),(33309,.Ef 176 false Tq4),(33536,.box [A8,A8,x64,Bh,Bh,x64,x64,x64,xs,xs,xb,xb,x64,x64,Bi,Bi,(xl (.str Aq)),x64,x64,x64,Bd,xb,Bd,Bd,xs,xs,Be,Be,Bl,A8])]⟩)],[]⟩
def fD:Sig:=.of [TF] [Abq] (fun a=>Ld N a)
theorem jU:Dq 18 (fD N):=Dw (Dv [(35,EX N),(29,S9 N),(70,VQ N),(36,AaV N),(71,AdE N),(72,AaU N)] AiB) Akd Tryz.f18 N (Dp ⟨EL N,UW N,V4 N,Afw N,AgQ N,Afv N,trivial⟩)
def aS:Sig:=.of [Nb] [Dx,Dx,Dx] (fun a=>RI N a)
theorem uQ:Dq 159 (aS N):=Dw (Dv [(243,AaE N),(49,FM N)] [] [(197,H5 N)]) ⟨[],[]⟩ Tryz.f159 N (Dp ⟨AeE N,Fv N,trivial⟩ ⟨Kv N,trivial⟩)
def Aay:List (Nat×Nrm):=[(3,⟨[2,4,7,8],[],[],[],[]⟩),(50,⟨[2,4,7,8,35,36,37],[],[],[],[]⟩)]
def AbQ:Lk:=⟨[],[(50,⟨[(2,.c AA),(4,.c AP),(7,.c Bg),(8,.c AX),(35,.c (xo 41728)),(36,.i),(37,.c x64)],[(33280,.box BH),(33792,.box BH),(34816,.box BP),(41728,.arr 333 false (.fn .nil))]⟩,[(0,⟨[(2,.c AA),(4,.c AP),(7,.c Bg),(8,.c AX)],[(33280,.box BH),(33792,.box BH),(34816,.box BP)]⟩)])]⟩
def Zj:Sig:=.of [D5] [J4,Dx] (fun a=>QE N a)
theorem sK:Dq 244 (Zj N):=Dw (Dv [(148,Qs N),(192,Io N)] Aay [] [(45,AfZ N)]) AbQ Tryz.f244 N (Dp ⟨NT N,G8 N,trivial⟩ trivial ⟨AlR N,trivial⟩)
def dR:List (Nat×Nrm):=[(3,⟨[6],[],[],[(261,1004096),(1000000,1004096)],[]⟩),(10,⟨[1,5,6],[],[],[(261,1000000),(40960,1000000)],[]⟩)]
def iJ:Lk:=⟨[],[(10,⟨[(1,.c (.c (.ptr 256 0))),(5,.c (.c (.ptr 35328 0))),(6,.c x64)],[(256,.box [xb,xb,x64,x64,(xo 1000000),(xo 262),(xo 263),x64,x64,x64,Bd,xb,Bd,Bd,xs,xs,Be,Be,(xo 275)]),(262,.arr 9 true Aq),(263,.arr 267 true (.str Aq)),(275,.arr 176 true Tq4),(35328,.box [Bg]),(1000000,.arr 9 true Aq)]⟩,[(0,⟨[(6,.c x64)],[(256,.box [xb,xb,x64,x64,(xo 1004096),(xo 262),(xo 263),x64,x64,x64,Bd,xb,Bd,Bd,xs,xs,Be,Be,(xo 275)]),(262,.arr 9 true Aq),(263,.arr 267 true (.str Aq)),(275,.arr 176 true Tq4),(1004096,.arr 9 true Aq)]⟩)])]⟩
def iK:Sig:=.of [D5,QX] [Dx] (fun a=>Jr N a.1 a.2)
theorem YK:Spec Tryz.prog 318 (iK N):=Le (C:=ctx Tryz.prog [(196,Jh N),(393,Pv N)] dR [(392,Ll N)]) (L:=iJ) (fn:=Tryz.f318) (N:=N+1) (Dp ⟨Jc N,PS N,trivial⟩ ⟨Og N,trivial⟩)
def rF:List (Nat×Nrm):=[(3,⟨[],[],[],[(517,1012336),(518,1012320),(519,1012304),(531,1012288),(1000000,1012288),(1000016,1012304),(1000032,1012320),(1000048,1012336)],[]⟩),(11,⟨[1,2,7,9,11],[([11],9,Aq,1008192)],[],[(517,1008256),(518,1008240),(519,1008224),(531,1008208),(1004096,1008192),(1004112,1008208),(1004128,1008224),(1004144,1008240),(1004160,1008256)],[]⟩),(18,⟨[1,2,7],[],[],[(517,1000048),(518,1000032),(519,1000016),(531,1000000),(617,1000048),(618,1000032),(619,1000016),(631,1000000)],[]⟩),(38,⟨[1,2,7,9,11],[([11],9,Aq,1004096)],[],[(517,1004160),(518,1004144),(519,1004128),(531,1004112),(45312,1004096),(1000000,1004112),(1000016,1004128),(1000032,1004144),(1000048,1004160)],[]⟩)]
def uY:Lk:=⟨[],[(18,⟨[(1,.i),(2,.c (.c (.clo 396 512))),(7,.c AV)],[(512,.box Bz),(37120,.box [Bg]),(1000000,.arr 176 true Tq4),(1000016,.arr 267 true (.str Aq)),(1000032,.arr 9 true Aq),(1000048,.arr 9 true Aq)]⟩,[(0,⟨[],[(512,.box BA),(1012288,.arr 176 true Tq4),(1012304,.arr 267 true (.str Aq)),(1012320,.arr 9 true Aq),(1012336,.arr 9 true Aq)]⟩)]),(38,⟨[(1,.i),(2,.c (.c (.clo 396 512))),(7,.c AV),(9,.c Ba),(11,.c (xo 1004096))],[(512,.box BB),(37120,.box [Bg]),(39936,.box [Bg]),(1004096,.arr 9 false Aq),(1004112,.arr 176 true Tq4),(1004128,.arr 267 true (.str Aq)),(1004144,.arr 9 true Aq),(1004160,.arr 9 true Aq)]⟩,[(2,⟨[(1,.i),(2,.c (.c (.clo 396 512))),(7,.c AV),(9,.c Ba),(11,.c (xo 1008192))],[(512,.box BC),(37120,.box [Bg]),(39936,.box [Bg]),(1008192,.arr 9 false Aq),(1008208,.arr 176 true Tq4),(1008224,.arr 267 true (.str Aq)),(1008240,.arr 9 true Aq),(1008256,.arr 9 true Aq)]⟩)])]⟩
def Wv:Sig:=.of [D5,Dx,Avt] [Dx] (fun a=>Sj N a.1 a.2.1 a.2.2)
theorem iM:Spec Tryz.prog 394 (Wv N):=Le (C:=ctx Tryz.prog [(196,Jh N),(393,Pv N),(49,FM N)] rF [(392,Ll N),(197,H5 N)] [(55,AhX N)]) (L:=uY) (fn:=Tryz.f394) (N:=N+1) (Dp ⟨Jc N,PS N,Fv N,trivial⟩ ⟨Og N,Kv N,trivial⟩ ⟨AnQ N,trivial⟩)
def AcI:Sig:=.of [Nb] [J4,Dx] (fun a=>lH N a)
theorem AgB:Dq 160 (AcI N):=Dw (Dv [(45,FO N),(244,Zj N)] []) ⟨[],[]⟩ Tryz.f160 N (Dp ⟨Fz N,sK N,trivial⟩)
def iI:Sig:=.of [D5,QX] [Dx] (fun a=>Jq N a.1 a.2)
theorem YJ:Dq 321 (iI N):=Dw (Dv [(394,Wv N)] []) ⟨[],[]⟩ Tryz.f321 N (Dp ⟨iM N,trivial⟩)
def iG:Sig:=.of [D5,QX] [Dx] (fun a=>Jp N a.1 a.2)
theorem YI:Dq 324 (iG N):=Dw (Dv [(394,Wx N)] []) ⟨[],[]⟩ Tryz.f324 N (Dp ⟨iO N,trivial⟩)
def Acv:List (Nat×Nrm):=[(3,⟨[],[],[],[],[]⟩),(11,⟨[32,33,34],[],[],[],[]⟩),(26,⟨[32,33,34],[],[],[],[]⟩),(38,⟨[32,33,34,38,39,40],[],[],[],[]⟩)]
def Aeo:Lk:=⟨[],[(26,⟨[(32,.c (xo 40960)),(33,.i),(34,.c x64)],[(40960,.arr 30 false (.sl 84 Tq1 .nil))]⟩,[(0,⟨[],[]⟩)]),(38,⟨[(32,.c (xo 40960)),(33,.i),(34,.i),(38,.i),(39,.i),(40,.c x64)],[(40960,.arr 30 false (.sl 84 Tq1 .nil))]⟩,[(2,⟨[(32,.c (xo 40960)),(33,.i),(34,.i)],[(40960,.arr 30 false (.sl 84 Tq1 .nil))]⟩)])]⟩
def PH:Sig:=.of [Aez] [Dx] (fun a=>Il N a)
theorem Qp:Dq 309 (PH N):=Dw (Dv [(202,OD N)] Acv) Aeo Tryz.f309 N (Dp ⟨Oo N,trivial⟩)
def AaC:Sig:=.of [Nb] [Sq1,Dx] (fun a=>Wp N a)
theorem AeC:Dq 158 (AaC N):=Dw (Dv [(45,FO N),(107,Vu N)] []) ⟨[],[]⟩ Tryz.f158 N (Dp ⟨Fz N,XH N,trivial⟩)
def Xg:Sig:=.of [Abq,J4] [Dx] (fun a=>JJ N a.1 a.2)
theorem Y9:Dq 27 (Xg N):=Dw (Dv [(91,bK N)] []) ⟨[],[]⟩ Tryz.f27 N (Dp ⟨xW N,trivial⟩)
def gZ:List (Nat×Nrm):=[(3,⟨[],[],[],[],[]⟩),(10,⟨[6,7,8],[],[],[],[]⟩)]
def lI:Lk:=⟨[],[(10,⟨[(6,.i),(7,.i),(8,.c x64)],[]⟩,[(0,⟨[],[]⟩)])]⟩
def Ob:Sig:=.of [.cell false (.sl 84 Tq1)] [Dx] (fun a=>I7 N a)
theorem QT:Dq 250 (Ob N):=Dw (Dv [(202,OD N)] gZ) lI Tryz.f250 N (Dp ⟨Oo N,trivial⟩)
def QB:Sig:=.of [Sq2,Ee] [D5,Dx] (fun a=>G6 N a.1 a.2)
theorem Rf:Dq 121 (QB N):=Dw (Dv [(202,OD N),(123,Ip N),(56,Vw N)] []) ⟨[],[]⟩ Tryz.f121 N (Dp ⟨Oo N,G9 N,XI N,trivial⟩)
def Adm:List (Nat×Nrm):=[(29,⟨[1,2,4,6,11,13],[],[],[],[]⟩),(53,⟨[1,4,6],[],[(some 34304,2,Au)],[],[]⟩)]
def Afh:Lk:=⟨[(29,⟨[(1,.i),(2,.c AA),(4,.c AP),(6,.c AZ),(11,.i),(13,.c xb)],[(33280,.box BP),(33792,.box [A7,A8,(xo 33795)]),(33795,.Ef 144 false Au),(34304,.box [A7,A8,(xo 34307)]),(34307,.Ef 144 false Au)]⟩),(53,⟨[(1,.i),(4,.c AP),(6,.c AZ)],[(33792,.box [A7,A8,(xo 33795)]),(33795,.Ef 144 false Au),(34304,.box [x64,xs,Bh])]⟩)],[]⟩
def Vx:Sig:=.of [J4,Ee] [Sq2,Dx] (fun a=>GV N a.1 a.2)
theorem XJ:Dq 401 (Vx N):=Dw (Dv [(107,Vu N),(202,OD N)] Adm) Afh Tryz.f401 N (Dp ⟨XH N,Oo N,trivial⟩)
def Ri:Sig:=.of [Aey] [J4] (fun a=>Je N a)
theorem Uj:Dq 93 (Ri N):=Dw (Dv [(179,LX N),(180,WH N),(181,UX N)] []) ⟨[],[]⟩ Tryz.f93 N (Dp ⟨Nq N,jZ N,fF N,trivial⟩)
def iC:List (Nat×Nrm):=[(13,⟨[1,4],[],[],[],[]⟩)]
def lJ:Lk:=⟨[(13,⟨[(1,.c AU),(4,.c xb)],[(33024,.box [Bd,x64,xb,Bh])]⟩)],[]⟩
def TN:Sig:=.of [Sq4] [Dx] (fun a=>MO N a)
theorem ZO:Dq 203 (TN N):=Dw (Dv [(250,Ob N),(114,MC N)] iC) lJ Tryz.f203 N (Dp ⟨QT N,LG N,trivial⟩)
def sG:List (Nat×Nrm):=[(3,⟨[5],[],[],[],[]⟩),(26,⟨[5,16,17,18],[],[],[],[]⟩)]
def wR:Lk:=⟨[],[(26,⟨[(5,.c xs),(16,.i),(17,.i),(18,.c x64)],[]⟩,[(0,⟨[(5,.c xs)],[]⟩)])]⟩
def Qa:Sig:=.of [.cell false (.sl 84 Tq1)] [D5,Dx] (fun a=>J9 N a)
theorem Tn:Dq 217 (Qa N):=Dw (Dv [(292,Xr N),(121,QB N)] sG) wR Tryz.f217 N (Dp ⟨YZ N,Rf N,trivial⟩)
def sF:List (Nat×Nrm):=[(3,⟨[7],[([7],84,Tq1,1004096)],[],[(1000000,1004096)],[]⟩),(38,⟨[7,26,27,28],[([7],84,Tq1,1000000)],[],[(43776,1000000)],[]⟩)]
def wQ:Lk:=⟨[],[(38,⟨[(7,.c (xo 1000000)),(26,.i),(27,.i),(28,.c x64)],[(1000000,.arr 84 false Tq1)]⟩,[(0,⟨[(7,.c (xo 1004096))],[(1004096,.arr 84 false Tq1)]⟩)])]⟩
def PZ:Sig:=.of [D5] [.cell false (.sl 84 Tq1),Dx] (fun a=>Iw N a)
theorem Tm:Dq 355 (PZ N):=Dw (Dv [(192,Io N),(292,Xr N),(401,Vx N)] sF) wQ Tryz.f355 N (Dp ⟨G8 N,YZ N,XJ N,trivial⟩)
def Pg:Sig:=.of [Abp] [J4] (fun a=>Gj N a)
theorem RF:Dq 28 (Pg N):=Dw (Dv [(92,La N),(93,Ri N)] [] [] [] [] [] [] [(93,[(0,1),(0,2),(0,3)])]) ⟨[],[]⟩ Tryz.f28 N (Dp ⟨Md N,Uj N,trivial⟩)
def sU:List (Nat×Nrm):=[(3,⟨[10],[],[],[],[]⟩),(42,⟨[0,10,11,12],[],[],[],[]⟩)]
def xR:Lk:=⟨[],[(42,⟨[(0,.c AB),(10,.c xs),(11,.c x64),(12,.c x64)],[(0,.box BG)]⟩,[(0,⟨[(10,.c xs)],[(0,.box BG)]⟩)])]⟩
def WG:Sig:=.of [Aey,Dx,D5] [D5,Dx] (fun a=>JD N a.1 a.2.1 a.2.2)
theorem jY:Dq 155 (WG N):=Dw (Dv [(179,LX N),(152,KW N),(93,Ri N),(177,Uk N),(241,AdP N),(242,VS N)] sU [] [] [] [] [] [(93,[(0,1),(0,2),(0,3)])]) xR Tryz.f155 N (Dp ⟨Nq N,LZ N,Uj N,WJ N,Ahb N,V8 N,trivial⟩)
def dJ:List (Nat×Nrm):=[(3,⟨[],[],[],[],[]⟩),(18,⟨[9,10,11],[],[],[],[]⟩)]
def gX:Lk:=⟨[],[(18,⟨[(9,.i),(10,.i),(11,.c x64)],[]⟩,[(0,⟨[],[]⟩)])]⟩
def Kr:Sig:=.of [.cell false (.sl 153 Tq2)] [Dx] (fun a=>EU N a)
theorem Ls:Dq 117 (Kr N):=Dw (Dv [(203,TN N)] dJ) gX Tryz.f117 N (Dp ⟨ZO N,trivial⟩)
def dN:List (Nat×Nrm):=[(45,⟨[0,2,4,5],[],[(some 34048,0,Tq1)],[],[]⟩),(73,⟨[0,2,4,5],[],[],[],[]⟩),(105,⟨[0,2,4,5],[],[(some 34048,3,Au)],[],[]⟩)]
def iD:Lk:=⟨[(45,⟨[(0,.c AB),(2,.c AA),(4,.c AP),(5,.c AQ)],[(0,.box [Bg]),(33280,.box BK),(33281,.Ef 84 false Tq1),(33284,.Ef 144 false Au),(33792,.box BL),(33793,.Ef 84 false Tq1),(33796,.Ef 144 false Au),(34048,.box [Bd,A7,AL,(xo 34052)]),(34052,.Ef 144 false Au)]⟩),(73,⟨[(0,.c AB),(2,.c AA),(4,.c AP),(5,.c AQ)],[(0,.box [Bg]),(33280,.box BK),(33281,.Ef 84 false Tq1),(33284,.Ef 144 false Au),(33792,.box BL),(33793,.Ef 84 false Tq1),(33796,.Ef 144 false Au),(34048,.box [Bd,x64,AL,(xo 34052)]),(34052,.Ef 144 false Au)]⟩),(105,⟨[(0,.c AB),(2,.c AA),(4,.c AP),(5,.c AQ)],[(0,.box [Bg]),(33280,.box BK),(33281,.Ef 84 false Tq1),(33284,.Ef 144 false Au),(33792,.box BL),(33793,.Ef 84 false Tq1),(33796,.Ef 144 false Au),(34048,.box [Bd,x64,xb,Bh])]⟩)],[]⟩
def SX:Sig:=.of [Nb] [Sq4,Dx] (fun a=>LQ N a)
theorem YF:Dq 358 (SX N):=Dw (Dv [(109,J8 N),(73,Hy N),(355,PZ N),(357,Z4 N),(49,FM N)] dN) iD Tryz.f358 N (Dp ⟨Jw N,JR N,Tm N,bV N,Fv N,trivial⟩)
def UH:Sig:=.of [Abp,D5] [D5,Dx] (fun a=>Gu N a.1 a.2)
theorem aF:Dq 81 (UH N):=Dw (Dv [(92,La N),(154,UG N),(155,WG N)] []) ⟨[],[]⟩ Tryz.f81 N (Dp ⟨Md N,aC N,jY N,trivial⟩)
def vG:Sig:=.of [.box [(false,.bool)],Gy] [D5] (fun a=>LC N a.1 a.2)
theorem iU:Dq 332 (vG N):=Dw (Dv [(217,Qa N),(55,EY N),(52,FD N)] []) ⟨[],[]⟩ Tryz.f332 N (Dp ⟨Tn N,EM N,Fg N,trivial⟩)
def OA:Sig:=.of [Gy] [Dx] (fun a=>IY N a)
theorem UO:Dq 251 (OA N):=Dw (Dv [(309,PH N)] []) ⟨[],[]⟩ Tryz.f251 N (Dp ⟨Qp N,trivial⟩)
def kX:List (Nat×Nrm):=[(3,⟨[0,6],[([6],9,Aq,1004096)],[],[(1000000,1004096)],[]⟩),(22,⟨[0,6,15,16,17],[([6],9,Aq,1000000)],[],[(43264,1000000)],[]⟩)]
def pK:Lk:=⟨[],[(22,⟨[(0,.i),(6,.c (xo 1000000)),(15,.i),(16,.i),(17,.c x64)],[(1000000,.arr 9 false Aq)]⟩,[(0,⟨[(0,.i),(6,.c (xo 1004096))],[(1004096,.arr 9 false Aq)]⟩)])]⟩
def UL:Sig:=.of [Dx,.cell false (.sl 84 Tq1)] [D5,Dx] (fun a=>Ha N a.1 a.2)
theorem aI:Dq 436 (UL N):=Dw (Dv [(121,QB N),(123,Ip N)] kX) pK Tryz.f436 N (Dp ⟨Rf N,G9 N,trivial⟩)
def kW:List (Nat×Nrm):=[(3,⟨[6],[([6],84,Tq1,1004096)],[],[(1000000,1004096)],[]⟩),(34,⟨[6,23,24,25],[([6],84,Tq1,1000000)],[],[(48128,1000000)],[]⟩)]
def pJ:Lk:=⟨[],[(34,⟨[(6,.c (xo 1000000)),(23,.i),(24,.i),(25,.c x64)],[(1000000,.arr 84 false Tq1)]⟩,[(0,⟨[(6,.c (xo 1004096))],[(1004096,.arr 84 false Tq1)]⟩)])]⟩
def UK:Sig:=.of [D5] [.cell false (.sl 84 Tq1),Dx] (fun a=>II N a)
theorem aH:Dq 437 (UK N):=Dw (Dv [(192,Io N),(401,Vx N)] kW) pJ Tryz.f437 N (Dp ⟨G8 N,XJ N,trivial⟩)
def ZF:Sig:=.of [Aez] [D5,Dx] (fun a=>QP N a)
theorem tJ:Dq 397 (ZF N):=Dw (Dv [(309,PH N),(436,UL N),(123,Ip N)] []) ⟨[],[]⟩ Tryz.f397 N (Dp ⟨Qp N,aI N,G9 N,trivial⟩)
def uV:Sig:=.of [D5,QX] [Dx] (fun a=>Lu N a.1 a.2)
theorem iH:Dq 333 (uV N):=Dw (Dv [(73,Hy N),(355,PZ N)] []) ⟨[],[]⟩ Tryz.f333 N (Dp ⟨JR N,Tm N,trivial⟩)
def Aa4:List (Nat×Nrm):=[(46,⟨[2,4,5,8,37,38,39],[],[],[],[]⟩)]
def ZE:Sig:=.of [D5] [Aez,Dx] (fun a=>QO N a)
theorem tH:Spec Tryz.prog 398 (ZE N):=Le (C:=ctx Tryz.prog [(148,Qs N),(192,Io N),(309,PH N),(437,UK N)] Aa4) (L:=⟨[],[]⟩) (fn:=Tryz.f398) (N:=N+9) (Dp ⟨NT N,G8 N,Qp N,aH N,trivial⟩)
def ZM:List (Nat×Nrm):=[(3,⟨[5,6],[([6],9,Aq,1016384)],[],[(1000000,1016384)],[]⟩),(38,⟨[5,6,22,23,24],[([6],9,Aq,1000000)],[],[(54272,1000000)],[]⟩),(57,⟨[5,6,8,9,22,23,24],[([6],9,Aq,1004096)],[],[(1000000,1004096)],[]⟩),(65,⟨[5,6,8,9,22,23,24],[([6],9,Aq,1008192)],[],[(1004096,1008192)],[]⟩),(77,⟨[5,6,9,22,23,24],[([6],9,Aq,1012288)],[],[(1008192,1012288)],[]⟩)]
def dL:Lk:=⟨[(57,⟨[(5,.c AY),(6,.c (xo 1004096)),(8,.c AX),(9,.c (xo 39936)),(22,.i),(23,.i),(24,.i)],[(34816,.box [Bd,x64,xb,Bh]),(38144,.box [xb]),(39936,.arr 9 false Aq),(1004096,.arr 9 false Aq)]⟩),(65,⟨[(5,.c AY),(6,.c (xo 1008192)),(8,.c AX),(9,.c (xo 39936)),(22,.i),(23,.i),(24,.i)],[(34816,.box [Bd,x64,xb,Bh]),(38144,.box [xb]),(39936,.arr 9 false Aq),(1008192,.arr 9 false Aq)]⟩),(77,⟨[(5,.c AY),(6,.c (xo 1012288)),(9,.c (xo 39936)),(22,.i),(23,.i),(24,.i)],[(38144,.box [xb]),(39936,.arr 9 false Aq),(1012288,.arr 9 false Aq)]⟩)],[(38,⟨[(5,.c AY),(6,.c (xo 1000000)),(22,.i),(23,.i),(24,.c x64)],[(38144,.box [xb]),(1000000,.arr 9 false Aq)]⟩,[(0,⟨[(5,.c AY),(6,.c (xo 1016384))],[(38144,.box [xb]),(1016384,.arr 9 false Aq)]⟩)])]⟩
def Nj:Sig:=.of [.cell false (.sl 153 Tq2)] [D5,Dx] (fun a=>IX N a)
theorem Pq:Dq 131 (Nj N):=Dw (Dv [(117,Kr N),(217,Qa N),(55,EY N),(58,EN N),(218,Uw N),(121,QB N),(52,FD N),(61,Su N)] ZM) dL Tryz.f131 N (Dp ⟨Ls N,Tn N,EM N,EG N,WR N,Rf N,Fg N,OW N,trivial⟩)
def ZL:List (Nat×Nrm):=[(3,⟨[6],[([6],153,Tq2,1004096)],[],[(1000000,1004096)],[]⟩),(30,⟨[4,6],[([6],153,Tq2,1000000)],[],[(44032,1000000)],[]⟩)]
def dK:Lk:=⟨[],[(30,⟨[(4,.c (.c (.ptr 36096 0))),(6,.c (xo 1000000))],[(36096,.box [Bg]),(1000000,.arr 153 false Tq2)]⟩,[(0,⟨[(6,.c (xo 1004096))],[(1004096,.arr 153 false Tq2)]⟩)])]⟩
def Nh:Sig:=.of [D5] [.cell false (.sl 153 Tq2),Dx] (fun a=>IW N a)
theorem Pn:Dq 275 (Nh N):=Dw (Dv [(196,Jh N),(358,SX N),(117,Kr N)] ZL [(44,Oi N),(197,H5 N)]) dK Tryz.f275 N (Dp ⟨Jc N,YF N,Ls N,trivial⟩ ⟨PV N,Kv N,trivial⟩)
def Abz:List (Nat×Nrm):=[(3,⟨[1,10],[],[],[],[]⟩),(130,⟨[1,10,120,121,122],[],[],[],[]⟩)]
def AcJ:Lk:=⟨[],[(130,⟨[(1,.c AU),(10,.c x64),(120,.i),(121,.i),(122,.c x64)],[(33024,.box Bq)]⟩,[(0,⟨[(1,.c AU),(10,.c x64)],[(33024,.box Bq)]⟩)])]⟩
def Pm:Sig:=.of [Gy] [Dx] (fun a=>Jj N a)
theorem PQ:Dq 166 (Pm N):=Dw (Dv [(247,jB N),(248,Ws N),(249,QS N),(250,Ob N),(251,OA N),(117,Kr N),(252,Q5 N),(253,Ro N)] Abz [] [(127,vW N)] [] [15,19,20,24,28,29,34,39,40,45,46,51,52,56,57,61]) AcJ Tryz.f166 N (Dp ⟨Aar N,gY N,Xh N,QT N,UO N,Ls N,QZ N,Yb N,trivial⟩ trivial ⟨AcW N,trivial⟩)
def YL:Sig:=.of [.box [(false,.bool)],Gy] [D5] (fun a=>Ia N a.1 a.2)
theorem Wy:Dq 335 (YL N):=Dw (Dv [(397,ZF N),(55,EY N)] []) ⟨[],[]⟩ Tryz.f335 N (Dp ⟨tJ N,EM N,trivial⟩)
def YG:Sig:=.of [D5,QX] [Dx] (fun a=>HY N a.1 a.2)
theorem Wu:Dq 336 (YG N):=Dw (Dv [(398,ZE N)] []) ⟨[],[]⟩ Tryz.f336 N (Dp ⟨tH N,trivial⟩)
def Gl:Sig:=.of [Abq] [Dx] (fun a=>Oa N a)
theorem aP:Dq 85 (Gl N):=Dw (Dv [(114,MC N),(164,AaD N),(165,NK N),(166,Pm N)] []) ⟨[],[]⟩ Tryz.f85 N (Dp ⟨LG N,AeD N,Nz N,PQ N,trivial⟩)
def rO:Sig:=.of [.box [(false,.bool)],Gy] [D5] (fun a=>KQ N a.1 a.2)
theorem dW:Dq 344 (rO N):=Dw (Dv [(131,Nj N),(55,EY N)] []) ⟨[],[]⟩ Tryz.f344 N (Dp ⟨Pq N,EM N,trivial⟩)
def iQ:Sig:=.of [.box [(false,.bool)],Gy] [D5] (fun a=>Js N a.1 a.2)
theorem YM:Dq 347 (iQ N):=Dw (Dv [(131,Nj N),(55,EY N)] []) ⟨[],[]⟩ Tryz.f347 N (Dp ⟨Pq N,EM N,trivial⟩)
def rE:Sig:=.of [D5,QX] [Dx] (fun a=>KO N a.1 a.2)
theorem dQ:Dq 345 (rE N):=Dw (Dv [(275,Nh N)] []) ⟨[],[]⟩ Tryz.f345 N (Dp ⟨Pn N,trivial⟩)
def lN:Sig:=.of [.box [(false,.bool)],Gy] [D5] (fun a=>JO N a.1 a.2)
theorem ZV:Dq 329 (lN N):=Dw (Dv [(53,Ol N)] []) ⟨[],[]⟩ Tryz.f329 N (Dp ⟨OX N,trivial⟩)
def dS:Sig:=.of [.box [(false,.bool)],Gy] [D5] (fun a=>Jb N a.1 a.2)
theorem Yd:Dq 341 (dS N):=Dw (Dv [(58,EN N),(52,FD N)] []) ⟨[],[]⟩ Tryz.f341 N (Dp ⟨EG N,Fg N,trivial⟩)
def ZC:Sig:=.of [Gy,Gy] [Ee] (fun a=>NS N a.1 a.2)
theorem sW:Dq 90 (ZC N):=Dw (Dv [(169,UY N),(170,U1 N),(171,KY N),(172,U0 N),(173,WV N),(174,RD N)] [] [] [] [] [10,16,17,23,24,30,31,37,38,44,45,51,52,58,59,65,66,72,73,79,80,86,87,93,94,100,101,107,108,114,115,121,122,128]) ⟨[],[]⟩ Tryz.f90 N (Dp ⟨fV N,aB N,Mc N,aA N,kP N,Yn N,trivial⟩)
def iF:Sig:=.of [D5,QX] [Dx] (fun a=>Jo N a.1 a.2)
theorem YH:Dq 348 (iF N):=Dw (Dv [(275,Nh N)] []) ⟨[],[]⟩ Tryz.f348 N (Dp ⟨Pn N,trivial⟩)
def Aga (N n:Nat):Sig:=.of [.box [(false,.bool)],Gy] [.cell false .str] (AeU N n)
theorem AlS:Qw Tryz.prog (Aga N):=Tc (Du:=[.box [(false,.bool)],Gy]) (DK:=[.cell false .str]) (l:=[(311,fun a=>L9 N a.1 a.2),(314,fun a=>LD N a.1 a.2),(317,fun a=>Jv N a.1 a.2),(320,fun a=>Ju N a.1 a.2),(323,fun a=>Jt N a.1 a.2),(326,fun a=>KP N a.1 a.2),(329,fun a=>JO N a.1 a.2),(332,fun a=>LC N a.1 a.2),(335,fun a=>Ia N a.1 a.2),(338,fun a=>JP N a.1 a.2),(341,fun a=>Jb N a.1 a.2),(344,fun a=>KQ N a.1 a.2),(347,fun a=>Js N a.1 a.2)]) ⟨iP N,jA N,YP N,YO N,YN N,dU N,ZV N,iU N,Wy N,ZW N,Yd N,dW N,YM N,trivial⟩
def Agb (N n:Nat):Sig:=.of [.cell false .str,QX] [.cell false (.int .i64)] (jH N n)
theorem AlT:Qw Tryz.prog (Agb N):=Tc (Du:=[.cell false .str,QX]) (DK:=[.cell false (.int .i64)]) (l:=[(312,fun a=>Lt N a.1 a.2),(315,fun a=>L6 N a.1 a.2),(318,fun a=>Jr N a.1 a.2),(321,fun a=>Jq N a.1 a.2),(324,fun a=>Jp N a.1 a.2),(327,fun a=>KN N a.1 a.2),(330,fun a=>JL N a.1 a.2),(333,fun a=>Lu N a.1 a.2),(336,fun a=>HY N a.1 a.2),(339,fun a=>JM N a.1 a.2),(342,fun a=>Ja N a.1 a.2),(345,fun a=>KO N a.1 a.2),(348,fun a=>Jo N a.1 a.2)]) ⟨iE N,iL N,YK N,YJ N,YI N,dP N,ZQ N,iH N,Wu N,ZU N,Yc N,dQ N,YH N,trivial⟩
def Aam:List (Nat×Nrm):=[(3,⟨[1,5,6],[([6],176,Tq4,1004096)],[],[(1000000,1004096)],[]⟩),(30,⟨[1,5,6,16,17,18],[([6],176,Tq4,1000000)],[],[(44032,1000000)],[]⟩)]
def Ab1:Lk:=⟨[],[(30,⟨[(1,.c AU),(5,.c (.c (.ptr 36608 0))),(6,.c (xo 1000000)),(16,.i),(17,.i),(18,.c x64)],[(33024,.box Bq),(36608,.box [xb]),(1000000,.arr 176 false Tq4)]⟩,[(0,⟨[(1,.c AU),(5,.c (.c (.ptr 36608 0))),(6,.c (xo 1004096))],[(33024,.box Bq),(36608,.box [xb]),(1004096,.arr 176 false Tq4)]⟩)])]⟩
def YD:Sig:=.of [Gy] [.cell false (.sl 176 Tq4),Dx] (fun a=>ND N a)
theorem qZ:Dq 168 (YD N):=Dw (Dv [(166,Pm N),(252,Q5 N),(61,Su N)] Aam [] [(23,vW N),(38,Aga N)]) Ab1 Tryz.f168 N (Dp ⟨PQ N,QZ N,OW N,trivial⟩ trivial ⟨AcW N,AlS N,trivial⟩)
def AcL:List (Nat×Nrm):=[(3,⟨[0,5],[],[],[],[]⟩),(18,⟨[0,5,15,16,17],[],[],[],[]⟩)]
def AeG:Lk:=⟨[],[(18,⟨[(0,.c AB),(5,.c AQ),(15,.i),(16,.i),(17,.c x64)],[(0,.box BF),(5,.arr 9 true Aq),(6,.arr 9 true Aq),(7,.arr 267 true (.str Aq)),(19,.arr 176 true Tq4),(34048,.box [xs,xb,xs])]⟩,[(0,⟨[(0,.c AB),(5,.c AQ)],[(0,.box BF),(5,.arr 9 true Aq),(6,.arr 9 true Aq),(7,.arr 267 true (.str Aq)),(19,.arr 176 true Tq4),(34048,.box [xs,xb,xs])]⟩)])]⟩
def jC:Sig:=.of [QX,.cell false (.sl 176 Tq4),Ap2] [Dx] (fun a=>Ie N a.1 a.2.1 a.2.2)
theorem Aas:Dq 246 (jC N):=Dw (Dv [(214,Nr N),(308,Vg N),(215,VZ N)] AcL [] [(66,Agb N)] [] [51,55,56,60,63,64]) AeG Tryz.f246 N (Dp ⟨Lr N,XE N,VH N,trivial⟩ trivial ⟨AlT N,trivial⟩)
def XC:Sig:=.of [.box [(false,.bool)],Gy] [D5] (fun a=>Pj N a.1 a.2)
theorem lG:Dq 88 (XC N):=Dw (Dv [(168,YD N),(55,EY N),(59,wF N),(58,EN N)] []) ⟨[],[]⟩ Tryz.f88 N (Dp ⟨qZ N,EM N,Ade N,EG N,trivial⟩)
def Aal:List (Nat×Nrm):=[(3,⟨[2,4],[],[],[(36101,1004144),(36102,1004128),(36103,1004112),(36115,1004096),(1000000,1004096),(1000016,1004112),(1000032,1004128),(1000048,1004144)],[]⟩),(22,⟨[0,2,4,14,15,16],[],[],[(33797,1000048),(33798,1000032),(33799,1000016),(33811,1000000),(36101,1000048),(36102,1000032),(36103,1000016),(36115,1000000)],[]⟩)]
def Ab0:Lk:=⟨[],[(22,⟨[(0,.i),(2,.c AA),(4,.c AP),(14,.i),(15,.i),(16,.c x64)],[(33280,.box Bo),(33285,.Ef 9 false Aq),(33286,.Ef 9 false Aq),(33287,.Ef 267 false (.str Aq)),(33291,.Ef 84 false Tq1),(33293,.Ef 84 false Tq1),(33294,.Ef 84 false Tq1),(33297,.Ef 153 false Tq2),(33298,.Ef 153 false Tq2),(33299,.Ef 176 false Tq4),(33792,.box Bz),(1000000,.arr 176 true Tq4),(1000016,.arr 267 true (.str Aq)),(1000032,.arr 9 true Aq),(1000048,.arr 9 true Aq)]⟩,[(0,⟨[(2,.c AA),(4,.c AP)],[(33280,.box Bo),(33285,.Ef 9 false Aq),(33286,.Ef 9 false Aq),(33287,.Ef 267 false (.str Aq)),(33291,.Ef 84 false Tq1),(33293,.Ef 84 false Tq1),(33294,.Ef 84 false Tq1),(33297,.Ef 153 false Tq2),(33298,.Ef 153 false Tq2),(33299,.Ef 176 false Tq4),(33792,.box [xb,xb,x64,x64,(xo 1004144),(xo 1004128),(xo 1004112),x64,x64,x64,Bd,xb,Bd,Bd,xs,xs,Be,Be,(xo 1004096)]),(1004096,.arr 176 true Tq4),(1004112,.arr 267 true (.str Aq)),(1004128,.arr 9 true Aq),(1004144,.arr 9 true Aq)]⟩)])]⟩
def YC:Sig:=.of [.cell false (.sl 176 Tq4)] [Gy,Dx] (fun a=>Lj N a)
theorem qY:Dq 163 (YC N):=Dw (Dv [(161,Vf N),(246,jC N),(166,Pm N)] Aal) Ab0 Tryz.f163 N (Dp ⟨XD N,Aas N,PQ N,trivial⟩)
def IV:Sig:=.of [.box [(false,.bool)],Ath] [D5] (fun a=>MN N a.1 a.2)
theorem AcH:Dq 86 (IV N):=Dw (Dv [(53,Ol N),(58,EN N),(54,LV N),(56,Vw N),(55,EY N),(57,pY N),(52,FD N),(87,Zk N),(88,XC N)] []) ⟨[],[]⟩ Tryz.f86 N (Dp ⟨OX N,EG N,Np N,XI N,EM N,AbE N,Fg N,sN N,lG N,trivial⟩)
def YA:Sig:=.of [Ath,D5] [Dx] (fun a=>Q3 N a.1 a.2)
theorem qW:Dq 82 (YA N):=Dw (Dv [(156,aT N),(157,pW N),(83,RZ N),(158,AaC N),(159,aS N),(160,AcI N),(161,Vf N),(109,J8 N),(162,wE N),(163,YC N),(49,FM N)] [] [(104,NH N)]) ⟨[],[]⟩ Tryz.f82 N (Dp ⟨uS N,Aby N,UR N,AeC N,uQ N,AgB N,XD N,Jw N,Adc N,qY N,Fv N,trivial⟩ ⟨Sr N,trivial⟩)
end
