import Derived.Test.YtadefjgbcapakaaGreatDoorA14
set_option linter.all false
namespace Go.Proofs.YtadefjgbcapakaaGreatDoor.Vm
noncomputable section
open Go.Proofs
def Vw (N:Nat):Sig:=.of [.cell false .str] [.cell false .bool] (fun a=>Ir N a)
theorem eY (N:Nat):Spec Tryz.prog 209 (Vw N):=Ad (C:=ctx Tryz.prog [(210,Vx N),(252,MW N)] [] [] [] [] [5,8,9,13,17,18,22,23,27,28]) (L:=⟨[],[]⟩) (fn:=Tryz.f209) (N:=N) (Af ⟨WQ N,LC N,trivial⟩)
def eX:List (Nat×Nrm):=[(3,⟨[5],[],[],[],[]⟩),(26,⟨[5,14,15,16],[],[],[],[]⟩)]
def kX:Lk:=⟨[],[(26,⟨[(5,.c xs),(14,.i),(15,.i),(16,.c x64)],[]⟩,[(0,⟨[(5,.c xs)],[]⟩)])]⟩
def RQ (N:Nat):Sig:=.of [Sq0] [.cell false .str,.cell false (.int .i64)] (fun a=>IM N a)
theorem Y5 (N:Nat):Spec Tryz.prog 203 (RQ N):=Ad (C:=ctx Tryz.prog [(80,F5 N),(241,RS N),(240,bP N),(48,DX N)] eX) (L:=kX) (fn:=Tryz.f203) (N:=N) (Af ⟨FH N,Y8 N,uO N,Dy N,trivial⟩)
def Zi (N:Nat):Alt:=.of [.cell false .str,.cell false (.int .i64)] [WX,.cell false (.int .i64)] [.cell false .ptr,.cell false (.int .i64)] (fun a=>Zh N a.1 a.2)
theorem AdO (N:Nat):Spec Tryz.prog 84 (Zi N).1/\Spec Tryz.prog 84 (Zi N).2.1:=YP (C:=ctx Tryz.prog [(170,iF N)] [] [(171,Lc N)]) (L:=⟨[],[]⟩) (fn:=Tryz.f84) (N:=N) (Af ⟨iG N,trivial⟩ ⟨UG N,trivial⟩) (by kernel_rfl) (by kernel_rfl) (fun a=>by kernel_rfl)
def J8 (N:Nat):Alt:=.of [WX] [WX,.cell false (.int .i64)] [.cell false .ptr,.cell false (.int .i64)] (fun a=>Ia N a)
theorem XX (N:Nat):Spec Tryz.prog 86 (J8 N).1/\Spec Tryz.prog 86 (J8 N).2.1:=YP (C:=ctx Tryz.prog [(172,Tn N)] [] [(171,Lc N)]) (L:=⟨[],[]⟩) (fn:=Tryz.f86) (N:=N) (Af ⟨Zl N,trivial⟩ ⟨UG N,trivial⟩) (by kernel_rfl) (by kernel_rfl) (fun a=>by kernel_rfl)
def VL:List (Nat×Nrm):=[(3,⟨[6],[([6],177,Tq0,1004096)],[],[(1000000,1004096)],[]⟩),(42,⟨[6,26,27,28],[([6],177,Tq0,1000000)],[],[(43776,1000000)],[]⟩)]
def Xl:Lk:=⟨[],[(42,⟨[(6,.c (xo 1000000)),(26,.i),(27,.i),(28,.c x64)],[(1000000,.arr 177 false Tq0)]⟩,[(0,⟨[(6,.c (xo 1004096))],[(1004096,.arr 177 false Tq0)]⟩)])]⟩
def ML (N:Nat):Sig:=.of [Sq9] [.cell false (.sl 177 Tq0),.cell false (.int .i64)] (fun a=>F9 N a)
theorem TU (N:Nat):Spec Tryz.prog 289 (ML N):=Ad (C:=ctx Tryz.prog [(220,LJ N),(308,WT N),(309,LQ N)] VL) (L:=Xl) (fn:=Tryz.f289) (N:=N) (Af ⟨Jt N,lW N,Sm N,trivial⟩)
def eP:List (Nat×Nrm):=[(3,⟨[2,4,8],[],[],[(34917,1012288),(1000000,1012288)],[]⟩),(11,⟨[2,4,8,13,40,41,42],[([13],177,Tq0,1008192)],[],[(34917,1008208),(1004096,1008192),(1004112,1008208)],[]⟩),(42,⟨[2,4,8,40,41,42],[],[],[(34917,1000000),(54528,1000000)],[]⟩),(78,⟨[2,4,8,13,40,41,42,61,62,63],[([13],177,Tq0,1004096)],[],[(34917,1004112),(52992,1004096),(1000000,1004112)],[]⟩)]
def kV:Lk:=⟨[],[(42,⟨[(2,.c (.c (.ptr 33280 0))),(4,.c (.c (.ptr 33792 0))),(8,.c (.c (.ptr 34816 0))),(40,.i),(41,.i),(42,.c x64)],[(33280,.box [(xo 33281)]),(33281,.AP 175 false (.sl 177 Tq0 .nil)),(33792,.box [(xo 33893)]),(33893,.AP 175 false (.sl 177 Tq0 .nil)),(34816,.box [(xo 1000000)]),(1000000,.arr 175 false (.sl 177 Tq0 .nil))]⟩,[(0,⟨[(2,.c (.c (.ptr 33280 0))),(4,.c (.c (.ptr 33792 0))),(8,.c (.c (.ptr 34816 0)))],[(33280,.box [(xo 33281)]),(33281,.AP 175 false (.sl 177 Tq0 .nil)),(33792,.box [(xo 33893)]),(33893,.AP 175 false (.sl 177 Tq0 .nil)),(34816,.box [(xo 1012288)]),(1012288,.arr 175 false (.sl 177 Tq0 .nil))]⟩)]),(78,⟨[(2,.c (.c (.ptr 33280 0))),(4,.c (.c (.ptr 33792 0))),(8,.c (.c (.ptr 34816 0))),(13,.c (xo 1004096)),(40,.i),(41,.i),(42,.i),(61,.i),(62,.i),(63,.c x64)],[(33280,.box [(xo 33281)]),(33281,.AP 175 false (.sl 177 Tq0 .nil)),(33792,.box [(xo 33893)]),(33893,.AP 175 false (.sl 177 Tq0 .nil)),(34816,.box [(xo 1004112)]),(1004096,.arr 177 false Tq0),(1004112,.arr 175 false (.sl 177 Tq0 .nil))]⟩,[(2,⟨[(2,.c (.c (.ptr 33280 0))),(4,.c (.c (.ptr 33792 0))),(8,.c (.c (.ptr 34816 0))),(13,.c (xo 1008192)),(40,.i),(41,.i),(42,.i)],[(33280,.box [(xo 33281)]),(33281,.AP 175 false (.sl 177 Tq0 .nil)),(33792,.box [(xo 33893)]),(33893,.AP 175 false (.sl 177 Tq0 .nil)),(34816,.box [(xo 1008208)]),(1008192,.arr 177 false Tq0),(1008208,.arr 175 false (.sl 177 Tq0 .nil))]⟩)])]⟩
def RP (N:Nat):Sig:=.of [.cell false .str] [Sq0,.cell false (.int .i64)] (fun a=>IL N a)
theorem Y4 (N:Nat):Spec Tryz.prog 265 (RP N):=Ad (C:=ctx Tryz.prog [(81,Rf N),(89,KJ N),(290,Tz N),(291,TD N),(80,F5 N)] eP) (L:=kV) (fn:=Tryz.f265) (N:=N) (Af ⟨QK N,JM N,ZQ N,ZX N,FH N,trivial⟩)
end
noncomputable section
def dD:List (Nat×Nrm):=[(17,⟨[0,3,5],[],[],[],[]⟩)]
def gQ:Lk:=⟨[(17,⟨[(0,.c (.c (.ptr 0 0))),(3,.c (.c (.ptr 33536 0))),(5,.c xs)],[(0,.box [xb]),(33536,.box [xb,xb,x64,x64,(xl (.str .nil)),(xl (.str .nil)),(xl (.str (.str .nil))),x64,x64,x64,(xl Tq1),xb,(xl Tq1),(xl Tq1),xs,xs,(xl Tq2),(xl Tq2),(xl Tq3)])]⟩)],[]⟩
def gU (N:Nat):Sig:=.of [.box [(false,.bool)],Sq2] [.cell false .str] (fun a=>N8 N a.1 a.2)
theorem XI (N:Nat):Spec Tryz.prog 111 (gU N):=Ad (C:=ctx Tryz.prog [(189,NG N),(190,Tq N),(75,Dk N)] dD) (L:=gQ) (fn:=Tryz.f111) (N:=N) (Af ⟨Qd N,Zm N,CQ N,trivial⟩)
def JE (N:Nat):Sig:=.of [.box [(false,.bool)],.cell false .str] [.cell false .str] (fun a=>Jd N a.1 a.2)
theorem JY (N:Nat):Spec Tryz.prog 193 (JE N):=Ad (C:=ctx Tryz.prog [(236,Vf N),(71,CS N),(70,CE N)] []) (L:=⟨[],[]⟩) (fn:=Tryz.f193) (N:=N) (Af ⟨WB N,CJ N,Cb N,trivial⟩)
def YY:List (Nat×Nrm):=[(3,⟨[0,5],[],[],[],[]⟩),(14,⟨[0,5,13,14,15],[],[],[],[]⟩)]
def dF:Lk:=⟨[],[(14,⟨[(0,.c (.c (.ptr 0 0))),(5,.c (xo 34816)),(13,.c (xo 36096)),(14,.i),(15,.c x64)],[(0,.box [xb]),(34816,.arr 9 false (.str .nil)),(36096,.arr 3 false (.int .i64 .nil))]⟩,[(0,⟨[(0,.c (.c (.ptr 0 0))),(5,.c (xo 34816))],[(0,.box [xb]),(34816,.arr 9 false (.str .nil))]⟩)])]⟩
def dG (N:Nat):Sig:=.of [.box [(false,.bool)],Sq2] [.cell false .str] (fun a=>LZ N a.1 a.2)
theorem Xf (N:Nat):Spec Tryz.prog 126 (dG N):=Ad (C:=ctx Tryz.prog [(199,MF N),(70,CE N),(75,Dk N)] YY) (L:=dF) (fn:=Tryz.f126) (N:=N) (Af ⟨P7 N,Cb N,CQ N,trivial⟩)
def YX (N:Nat):Sig:=.of [.box [(false,.bool)],Sq2] [.cell false .str] (fun a=>JZ N a.1 a.2)
theorem VI (N:Nat):Spec Tryz.prog 129 (YX N):=Ad (C:=ctx Tryz.prog [(189,NG N)] []) (L:=⟨[],[]⟩) (fn:=Tryz.f129) (N:=N) (Af ⟨Qd N,trivial⟩)
def LU (N:Nat):Sig:=.of [Ag2] [.cell false .str,.cell false (.int .i64)] (fun a=>Fg N a)
theorem Sr (N:Nat):Spec Tryz.prog 216 (LU N):=Ad (C:=ctx Tryz.prog [(236,Vf N),(164,IX N)] []) (L:=⟨[],[]⟩) (fn:=Tryz.f216) (N:=N) (Af ⟨WB N,GK N,trivial⟩)
def Xe (N:Nat):Sig:=.of [.box [(false,.bool)],Sq2] [.cell false .str] (fun a=>IB N a.1 a.2)
theorem TS (N:Nat):Spec Tryz.prog 141 (Xe N):=Ad (C:=ctx Tryz.prog [(70,CE N),(75,Dk N)] []) (L:=⟨[],[]⟩) (fn:=Tryz.f141) (N:=N) (Af ⟨Cb N,CQ N,trivial⟩)
def Lr (N:Nat):Sig:=.of [Ny] [Sq4] (fun a=>FZ N a)
theorem MC (N:Nat):Spec Tryz.prog 43 (Lr N):=Ad (C:=ctx Tryz.prog [(33,BH N),(109,Xt N)] []) (L:=⟨[],[]⟩) (fn:=Tryz.f43) (N:=N) (Af ⟨BB N,Yp N,trivial⟩)
def Xr (N:Nat):Sig:=.of [Ny] [Sq4] (fun a=>KA N a)
theorem Yo (N:Nat):Spec Tryz.prog 42 (Xr N):=Ad (C:=ctx Tryz.prog [(33,BH N),(109,Xt N)] []) (L:=⟨[],[]⟩) (fn:=Tryz.f42) (N:=N) (Af ⟨BB N,Yp N,trivial⟩)
end
noncomputable section
def lV (N:Nat):Sig:=.of [.cell false (.int .i64),.cell false .str] [.cell false .bool] (fun a=>IW N a.1 a.2)
theorem zO (N:Nat):Spec Tryz.prog 259 (lV N):=Ad (C:=ctx Tryz.prog [(283,zS N),(284,zQ N)] []) (L:=⟨[],[]⟩) (fn:=Tryz.f259) (N:=N) (Af ⟨AcT N,AcS N,trivial⟩)
def Wn (N:Nat):Sig:=.of [.cell false .str] [.cell false .bool] (fun a=>Ji N a)
theorem iY (N:Nat):Spec Tryz.prog 245 (Wn N):=Ad (C:=ctx Tryz.prog [(246,Xn N),(272,PY N),(271,OZ N)] []) (L:=⟨[],[]⟩) (fn:=Tryz.f245) (N:=N) (Af ⟨Yg N,VS N,Nj N,trivial⟩)
def VH:List (Nat×Nrm):=[(3,⟨[],[],[],[],[]⟩),(10,⟨[0,10,11,12],[],[],[],[]⟩),(11,⟨[0,4,10,11,12],[],[],[],[]⟩),(42,⟨[0,4,10,11,12,30,31,32],[],[],[],[]⟩)]
def Xc:Lk:=⟨[],[(10,⟨[(0,.i),(10,.i),(11,.i),(12,.c x64)],[]⟩,[(0,⟨[],[]⟩)]),(42,⟨[(0,.i),(4,.c (.c (.ptr 33792 0))),(10,.i),(11,.i),(12,.i),(30,.i),(31,.i),(32,.c x64)],[(33792,.box [xs,xb,xs])]⟩,[(2,⟨[(0,.i),(4,.c (.c (.ptr 33792 0))),(10,.i),(11,.i),(12,.i)],[(33792,.box [xs,xb,xs])]⟩)])]⟩
def MK (N:Nat):Sig:=.of [.cell false (.sl 60 Tq3)] [.cell false (.int .i64)] (fun a=>OG N a)
theorem TR (N:Nat):Spec Tryz.prog 58 (MK N):=Ad (C:=ctx Tryz.prog [(156,MS N),(159,XH N),(160,qR N)] VH) (L:=Xc) (fn:=Tryz.f58) (N:=N) (Af ⟨Lt N,o5 N,Abg N,trivial⟩)
def Xj:List (Nat×Nrm):=[(3,⟨[0,5],[([5],9,(.str .nil),1004096)],[],[(1000000,1004096)],[]⟩),(14,⟨[0,5,9,10,11],[([5],9,(.str .nil),1000000)],[],[(37888,1000000)],[]⟩)]
def XP:Lk:=⟨[],[(14,⟨[(0,.c (.c (.ptr 0 0))),(5,.c (xo 1000000)),(9,.i),(10,.i),(11,.c x64)],[(0,.box [xb]),(1000000,.arr 9 false (.str .nil))]⟩,[(0,⟨[(0,.c (.c (.ptr 0 0))),(5,.c (xo 1004096))],[(0,.box [xb]),(1004096,.arr 9 false (.str .nil))]⟩)])]⟩
def XQ (N:Nat):Sig:=.of [.box [(false,.bool)],Sq2] [.cell false .str] (fun a=>J7 N a.1 a.2)
theorem UF (N:Nat):Spec Tryz.prog 117 (XQ N):=Ad (C:=ctx Tryz.prog [(193,JE N),(75,Dk N)] Xj) (L:=XP) (fn:=Tryz.f117) (N:=N) (Af ⟨JY N,CQ N,trivial⟩)
def Xi:List (Nat×Nrm):=[(3,⟨[0,5],[([5],9,(.str .nil),1004096)],[],[(1000000,1004096)],[]⟩),(14,⟨[0,5,9,10,11],[([5],9,(.str .nil),1000000)],[],[(38656,1000000)],[]⟩)]
def XN:Lk:=⟨[],[(14,⟨[(0,.c (.c (.ptr 0 0))),(5,.c (xo 1000000)),(9,.i),(10,.i),(11,.c x64)],[(0,.box [xb]),(1000000,.arr 9 false (.str .nil))]⟩,[(0,⟨[(0,.c (.c (.ptr 0 0))),(5,.c (xo 1004096))],[(0,.box [xb]),(1004096,.arr 9 false (.str .nil))]⟩)])]⟩
def XO (N:Nat):Sig:=.of [.box [(false,.bool)],Sq2] [.cell false .str] (fun a=>J6 N a.1 a.2)
theorem UE (N:Nat):Spec Tryz.prog 120 (XO N):=Ad (C:=ctx Tryz.prog [(193,JE N),(75,Dk N)] Xi) (L:=XN) (fn:=Tryz.f120) (N:=N) (Af ⟨JY N,CQ N,trivial⟩)
def Xg:List (Nat×Nrm):=[(3,⟨[0,5],[([5],9,(.str .nil),1004096)],[],[(1000000,1004096)],[]⟩),(14,⟨[0,5,9,10,11],[([5],9,(.str .nil),1000000)],[],[(39936,1000000)],[]⟩)]
def XK:Lk:=⟨[],[(14,⟨[(0,.c (.c (.ptr 0 0))),(5,.c (xo 1000000)),(9,.i),(10,.i),(11,.c x64)],[(0,.box [xb]),(1000000,.arr 9 false (.str .nil))]⟩,[(0,⟨[(0,.c (.c (.ptr 0 0))),(5,.c (xo 1004096))],[(0,.box [xb]),(1004096,.arr 9 false (.str .nil))]⟩)])]⟩
def XL (N:Nat):Sig:=.of [.box [(false,.bool)],Sq2] [.cell false .str] (fun a=>J5 N a.1 a.2)
theorem UD (N:Nat):Spec Tryz.prog 123 (XL N):=Ad (C:=ctx Tryz.prog [(193,JE N),(75,Dk N)] Xg) (L:=XK) (fn:=Tryz.f123) (N:=N) (Af ⟨JY N,CQ N,trivial⟩)
def tN:List (Nat×Nrm):=[(3,⟨[0,2,3],[],[],[(33637,1004096),(1000000,1004096)],[]⟩),(11,⟨[0,2,3],[],[],[(33638,1012288),(1008192,1012288)],[]⟩),(14,⟨[0,2,3,4],[],[],[(33637,1000000),(37376,1000000)],[]⟩),(30,⟨[0,2,3,5],[],[],[(33638,1008192),(40704,1008192)],[]⟩)]
def y9:Lk:=⟨[],[(14,⟨[(0,.c (.c (.ptr 0 0))),(2,.c (.c (.ptr 33280 0))),(3,.c (.c (.ptr 33536 0))),(4,.c x64)],[(0,.box [(xl (.int .i64 .nil)),x64]),(33280,.box [(xo 33281),(xo 33282)]),(33281,.AP 80 false Tq1),(33282,.AP 80 false Tq1),(33536,.box [(xo 1000000),(xo 33638)]),(33638,.AP 80 false Tq1),(1000000,.arr 80 false Tq1)]⟩,[(0,⟨[(0,.c (.c (.ptr 0 0))),(2,.c (.c (.ptr 33280 0))),(3,.c (.c (.ptr 33536 0)))],[(0,.box [(xl (.int .i64 .nil)),x64]),(33280,.box [(xo 33281),(xo 33282)]),(33281,.AP 80 false Tq1),(33282,.AP 80 false Tq1),(33536,.box [(xo 1004096),(xo 33638)]),(33638,.AP 80 false Tq1),(1004096,.arr 80 false Tq1)]⟩)]),(30,⟨[(0,.c (.c (.ptr 0 0))),(2,.c (.c (.ptr 33280 0))),(3,.c (.c (.ptr 33536 0))),(5,.c x64)],[(0,.box [(xl (.int .i64 .nil)),x64]),(33280,.box [(xo 33281),(xo 33282)]),(33281,.AP 80 false Tq1),(33282,.AP 80 false Tq1),(33536,.box [(xo 1004096),(xo 1008192)]),(1004096,.arr 80 false Tq1),(1008192,.arr 80 false Tq1)]⟩,[(2,⟨[(0,.c (.c (.ptr 0 0))),(2,.c (.c (.ptr 33280 0))),(3,.c (.c (.ptr 33536 0)))],[(0,.box [(xl (.int .i64 .nil)),x64]),(33280,.box [(xo 33281),(xo 33282)]),(33281,.AP 80 false Tq1),(33282,.AP 80 false Tq1),(33536,.box [(xo 1004096),(xo 1012288)]),(1004096,.arr 80 false Tq1),(1012288,.arr 80 false Tq1)]⟩)])]⟩
def Wu (N:Nat):Sig:=.of [Ny] [Sq7] (fun a=>Nq N a)
theorem jR (N:Nat):Spec Tryz.prog 98 (Wu N):=Ad (C:=ctx Tryz.prog [(33,BH N),(42,Xr N)] tN) (L:=y9) (fn:=Tryz.f98) (N:=N) (Af ⟨BB N,Yo N,trivial⟩)
def AaH:List (Nat×Nrm):=[(3,⟨[3],[([3],111,Tq2,1008192)],[],[(1000000,1008192)],[]⟩),(14,⟨[0,3,4],[([3],111,Tq2,1000000)],[],[(41216,1000000)],[]⟩),(33,⟨[0,3,4,5],[([3],111,Tq2,1004096)],[(some 34048,3,(.sl 177 Tq0 .nil))],[(1000000,1004096)],[]⟩)]
def Acw:Lk:=⟨[(33,⟨[(0,.c (.c (.ptr 0 0))),(3,.c (xo 1004096)),(4,.i),(5,.c (.c (.ptr 34048 0)))],[(0,.box [(xl (.int .i64 .nil)),x64]),(34048,.box [(xo 36608),x64,xb,(xl (.sl 177 Tq0 .nil))]),(36608,.arr 80 false Tq1),(1004096,.arr 111 false Tq2)]⟩)],[(14,⟨[(0,.c (.c (.ptr 0 0))),(3,.c (xo 1000000)),(4,.c x64)],[(0,.box [(xl (.int .i64 .nil)),x64]),(1000000,.arr 111 false Tq2)]⟩,[(0,⟨[(3,.c (xo 1008192))],[(0,.box [(xl (.int .i64 .nil)),x64]),(1008192,.arr 111 false Tq2)]⟩)])]⟩
def bI (N:Nat):Sig:=.of [Ny] [.cell true (.sl 111 Tq2)] (fun a=>MR N a)
theorem tX (N:Nat):Spec Tryz.prog 99 (bI N):=Ad (C:=ctx Tryz.prog [(33,BH N),(43,Lr N),(180,UX N)] AaH) (L:=Acw) (fn:=Tryz.f99) (N:=N) (Af ⟨BB N,MC N,dY N,trivial⟩)
end
noncomputable section
def Xk:List (Nat×Nrm):=[(3,⟨[],[],[],[],[]⟩),(11,⟨[0,13,14,15],[],[],[],[]⟩),(26,⟨[0,13,14,15],[],[],[],[]⟩),(62,⟨[0,4,13,14,15,41,42,43],[],[],[],[]⟩)]
def Ya:Lk:=⟨[],[(26,⟨[(0,.i),(13,.i),(14,.i),(15,.c x64)],[]⟩,[(0,⟨[],[]⟩)]),(62,⟨[(0,.i),(4,.c (.c (.ptr 33792 0))),(13,.i),(14,.i),(15,.i),(41,.i),(42,.i),(43,.c x64)],[(33792,.box [xs,x64,xs])]⟩,[(2,⟨[(0,.i),(13,.i),(14,.i),(15,.i)],[]⟩)])]⟩
def Om (N:Nat):Sig:=.of [.cell false (.sl 177 Tq0)] [.cell false (.int .i64)] (fun a=>EC N a)
theorem UJ (N:Nat):Spec Tryz.prog 218 (Om N):=Ad (C:=ctx Tryz.prog [(156,MS N),(259,lV N)] Xk) (L:=Ya) (fn:=Tryz.f218) (N:=N) (Af ⟨Lt N,zO N,trivial⟩)
def Rx (N:Nat):Sig:=.of [.cell false (.int .i64),.cell false .str,.cell false .bool] [.cell false .bool] (fun a=>EH N a.1 a.2.1 a.2.2)
theorem Ye (N:Nat):Spec Tryz.prog 206 (Rx N):=Ad (C:=ctx Tryz.prog [(245,Wn N),(246,Xn N),(247,qA N),(248,Yh N),(249,jA N),(250,Yf N)] [] [] [] [] [11,14,15,18,21,22,26,29,30,33,36,37,41,44,45,48,51,52]) (L:=⟨[],[]⟩) (fn:=Tryz.f206) (N:=N) (Af ⟨iY N,Yg N,Aa8 N,oJ N,xJ N,oI N,trivial⟩)
def Aez:List (Nat×Nrm):=[(3,⟨[2,3],[],[],[(34053,1008272),(34054,1008256),(34055,1008240),(34059,1008224),(34065,1008208),(34067,1008192),(1000000,1008272),(1000016,1008256),(1000032,1008240),(1000048,1008224),(1000064,1008208),(1000080,1008192)],[]⟩),(14,⟨[0,2,3,4],[],[(some 33536,17,Tq2)],[(34053,1000000),(34054,1000016),(34055,1000032),(34059,1000048),(34065,1000064),(34067,1000080),(39168,1000080),(45568,1000000),(46848,1000016),(48128,1000032),(55040,1000048),(61440,1000064),(1004096,1000080),(1004112,1000064),(1004128,1000048),(1004144,1000032),(1004160,1000016),(1004176,1000000)],[1000048,1000080]⟩),(41,⟨[0,2,3,4,13,27],[],[],[(34053,1004176),(34054,1004160),(34055,1004144),(34059,1004128),(34065,1004112),(34067,1004096),(1000000,1004176),(1000016,1004160),(1000032,1004144),(1000048,1004128),(1000064,1004112),(1000080,1004096)],[]⟩)]
def Af8:Lk:=⟨[(41,⟨[(0,.c (.c (.ptr 0 0))),(2,.c (.c (.ptr 33280 0))),(3,.c (.c (.ptr 33536 0))),(4,.i),(13,.i),(27,.c xb)],[(0,.box [(xl (.int .i64 .nil)),x64]),(33280,.box [(.c (.bool false)),(.c (.bool false)),(.c (.int .i64 0)),(.c (.int .i64 0)),(xo 33285),(xo 33286),(xo 33287),(.c (.int .i64 0)),(.c (.int .i64 0)),(.c (.int .i64 0)),(xo 33291),(.c (.bool false)),(xo 33293),(xo 33294),(.c (.str ([]:Bs))),(.c (.str ([]:Bs))),(xo 33297),(xo 33298),(xo 33299)]),(33285,.AP 9 false (.str .nil)),(33286,.AP 9 false (.str .nil)),(33287,.AP 74 false (.str (.str .nil))),(33291,.AP 80 false Tq1),(33293,.AP 80 false Tq1),(33294,.AP 80 false Tq1),(33297,.AP 111 false Tq2),(33298,.AP 111 false Tq2),(33299,.AP 60 false Tq3),(33536,.box [xb,xb,x64,x64,(xo 1004176),(xo 1004160),(xo 1004144),x64,x64,x64,(xo 1004128),xb,(xl Tq1),(xl Tq1),xs,xs,(xo 1004112),(xl Tq2),(xo 1004096)]),(1004096,.arr 60 true Tq3),(1004112,.arr 111 true Tq2),(1004128,.arr 80 true Tq1),(1004144,.arr 74 true (.str (.str .nil))),(1004160,.arr 9 true (.str .nil)),(1004176,.arr 9 true (.str .nil))]⟩)],[(14,⟨[(0,.c (.c (.ptr 0 0))),(2,.c (.c (.ptr 33280 0))),(3,.c (.c (.ptr 33536 0))),(4,.c x64)],[(0,.box [(xl (.int .i64 .nil)),x64]),(33280,.box [(.c (.bool false)),(.c (.bool false)),(.c (.int .i64 0)),(.c (.int .i64 0)),(xo 33285),(xo 33286),(xo 33287),(.c (.int .i64 0)),(.c (.int .i64 0)),(.c (.int .i64 0)),(xo 33291),(.c (.bool false)),(xo 33293),(xo 33294),(.c (.str ([]:Bs))),(.c (.str ([]:Bs))),(xo 33297),(xo 33298),(xo 33299)]),(33285,.AP 9 false (.str .nil)),(33286,.AP 9 false (.str .nil)),(33287,.AP 74 false (.str (.str .nil))),(33291,.AP 80 false Tq1),(33293,.AP 80 false Tq1),(33294,.AP 80 false Tq1),(33297,.AP 111 false Tq2),(33298,.AP 111 false Tq2),(33299,.AP 60 false Tq3),(33536,.box [xb,xb,x64,x64,(xo 1000000),(xo 1000016),(xo 1000032),x64,x64,x64,(xo 1000048),xb,(xl Tq1),(xl Tq1),xs,xs,(xo 1000064),(xl Tq2),(xo 1000080)]),(1000000,.arr 9 true (.str .nil)),(1000016,.arr 9 true (.str .nil)),(1000032,.arr 74 true (.str (.str .nil))),(1000048,.arr 80 true Tq1),(1000064,.arr 111 true Tq2),(1000080,.arr 60 true Tq3)]⟩,[(0,⟨[(2,.c (.c (.ptr 33280 0))),(3,.c (.c (.ptr 33536 0)))],[(0,.box [(xl (.int .i64 .nil)),x64]),(33280,.box [(.c (.bool false)),(.c (.bool false)),(.c (.int .i64 0)),(.c (.int .i64 0)),(xo 33285),(xo 33286),(xo 33287),(.c (.int .i64 0)),(.c (.int .i64 0)),(.c (.int .i64 0)),(xo 33291),(.c (.bool false)),(xo 33293),(xo 33294),(.c (.str ([]:Bs))),(.c (.str ([]:Bs))),(xo 33297),(xo 33298),(xo 33299)]),(33285,.AP 9 false (.str .nil)),(33286,.AP 9 false (.str .nil)),(33287,.AP 74 false (.str (.str .nil))),(33291,.AP 80 false Tq1),(33293,.AP 80 false Tq1),(33294,.AP 80 false Tq1),(33297,.AP 111 false Tq2),(33298,.AP 111 false Tq2),(33299,.AP 60 false Tq3),(33536,.box [xb,xb,x64,x64,(xo 1008272),(xo 1008256),(xo 1008240),x64,x64,x64,(xo 1008224),xb,(xl Tq1),(xl Tq1),xs,xs,(xo 1008208),(xl Tq2),(xo 1008192)]),(1008192,.arr 60 true Tq3),(1008208,.arr 111 true Tq2),(1008224,.arr 80 true Tq1),(1008240,.arr 74 true (.str (.str .nil))),(1008256,.arr 9 true (.str .nil)),(1008272,.arr 9 true (.str .nil))]⟩)])]⟩
def qE (N:Nat):Sig:=.of [Ny] [Am7] (fun a=>Ws N a)
theorem AaE (N:Nat):Spec Tryz.prog 32 (qE N):=Ad (C:=ctx Tryz.prog [(20,l9 N),(33,BH N),(96,qF N),(97,Wv N),(43,Lr N),(98,Wu N),(99,bI N)] Aez [] [] [25,87]) (L:=Af8) (fn:=Tryz.f32) (N:=N) (Af ⟨zC N,BB N,AaG N,jS N,MC N,jR N,tX N,trivial⟩)
def Y2:List (Nat×Nrm):=[(53,⟨[2,5],[],[],[],[]⟩)]
def ZV:Lk:=⟨[(53,⟨[(2,.c (.c (.ptr 33280 0))),(5,.c xb)],[(33280,.box [x64,xs,(xl (.sl 177 Tq0 .nil))])]⟩)],[]⟩
def FD (N:Nat):Sig:=.of [Sq4,.cell false .bool] [.cell false (.int .i64)] (fun a=>D5 N a.1 a.2)
theorem G6 (N:Nat):Spec Tryz.prog 161 (FD N):=Ad (C:=ctx Tryz.prog [(209,Vw N),(210,Vx N),(211,kS N),(212,WS N),(213,bU N),(214,WO N),(80,F5 N)] Y2 [] [] [] [11,15,16,19,23,24,28,32,33,36,40,41,45,49,50,53,57,58]) (L:=ZV) (fn:=Tryz.f161) (N:=N) (Af ⟨eY N,WQ N,zB N,kZ N,uT N,kR N,FH N,trivial⟩)
end
noncomputable section
def Aat:List (Nat×Nrm):=[(3,⟨[],[],[],[],[]⟩),(18,⟨[11,12,13],[],[],[],[]⟩)]
def Ach:Lk:=⟨[],[(18,⟨[(11,.i),(12,.i),(13,.c x64)],[]⟩,[(0,⟨[],[]⟩)])]⟩
def Jf (N:Nat):Sig:=.of [Sq0] [.cell false (.int .i64)] (fun a=>EN N a)
theorem IE (N:Nat):Spec Tryz.prog 167 (Jf N):=Ad (C:=ctx Tryz.prog [(218,Om N)] Aat) (L:=Ach) (fn:=Tryz.f167) (N:=N) (Af ⟨UJ N,trivial⟩)
def sW:List (Nat×Nrm):=[(7,⟨[4,5],[],[],[(34835,1004096),(1000000,1004096)],[]⟩),(15,⟨[4,5],[],[],[(34827,1012288),(1008192,1012288)],[]⟩),(126,⟨[0,4,5,6],[],[],[(34835,1000000),(68864,1000000)],[]⟩),(150,⟨[0,4,5],[],[],[(34827,1008192),(75008,1008192)],[]⟩)]
def xW:Lk:=⟨[],[(126,⟨[(0,.c (.c (.ptr 0 0))),(4,.c (.c (.ptr 33792 0))),(5,.c (.c (.ptr 34048 0))),(6,.c x64)],[(0,.box [(xl (.int .i64 .nil)),x64]),(33792,.box [(.c (.bool false)),(.c (.bool false)),(.c (.int .i64 0)),(.c (.int .i64 0)),(xo 33797),(xo 33798),(xo 33799),(.c (.int .i64 0)),(.c (.int .i64 0)),(.c (.int .i64 0)),(xo 33803),(.c (.bool false)),(xo 33805),(xo 33806),(.c (.str ([]:Bs))),(.c (.str ([]:Bs))),(xo 33809),(xo 33810),(xo 33811)]),(33797,.AP 9 false (.str .nil)),(33798,.AP 9 false (.str .nil)),(33799,.AP 74 false (.str (.str .nil))),(33803,.AP 80 false Tq1),(33805,.AP 80 false Tq1),(33806,.AP 80 false Tq1),(33809,.AP 111 false Tq2),(33810,.AP 111 false Tq2),(33811,.AP 60 false Tq3),(34048,.box [xb,xb,x64,x64,(xo 34821),(xo 34822),(xo 34823),x64,x64,x64,(xo 34827),xb,(xl Tq1),(xl Tq1),xs,xs,(xo 34833),(xl Tq2),(xo 1000000)]),(34821,.arr 9 true (.str .nil)),(34822,.arr 9 true (.str .nil)),(34823,.arr 74 true (.str (.str .nil))),(34827,.arr 80 true Tq1),(34833,.arr 111 true Tq2),(1000000,.arr 60 true Tq3)]⟩,[(1,⟨[(4,.c (.c (.ptr 33792 0))),(5,.c (.c (.ptr 34048 0)))],[(0,.box [(xl (.int .i64 .nil)),x64]),(33792,.box [(.c (.bool false)),(.c (.bool false)),(.c (.int .i64 0)),(.c (.int .i64 0)),(xo 33797),(xo 33798),(xo 33799),(.c (.int .i64 0)),(.c (.int .i64 0)),(.c (.int .i64 0)),(xo 33803),(.c (.bool false)),(xo 33805),(xo 33806),(.c (.str ([]:Bs))),(.c (.str ([]:Bs))),(xo 33809),(xo 33810),(xo 33811)]),(33797,.AP 9 false (.str .nil)),(33798,.AP 9 false (.str .nil)),(33799,.AP 74 false (.str (.str .nil))),(33803,.AP 80 false Tq1),(33805,.AP 80 false Tq1),(33806,.AP 80 false Tq1),(33809,.AP 111 false Tq2),(33810,.AP 111 false Tq2),(33811,.AP 60 false Tq3),(34048,.box [xb,xb,x64,x64,(xo 34821),(xo 34822),(xo 34823),x64,x64,x64,(xo 34827),xb,(xl Tq1),(xl Tq1),xs,xs,(xo 34833),(xl Tq2),(xo 1004096)]),(34821,.arr 9 true (.str .nil)),(34822,.arr 9 true (.str .nil)),(34823,.arr 74 true (.str (.str .nil))),(34827,.arr 80 true Tq1),(34833,.arr 111 true Tq2),(1004096,.arr 60 true Tq3)]⟩)]),(150,⟨[(0,.c (.c (.ptr 0 0))),(4,.c (.c (.ptr 33792 0))),(5,.c (.c (.ptr 34048 0)))],[(0,.box [(xl (.int .i64 .nil)),x64]),(33792,.box [(.c (.bool false)),(.c (.bool false)),(.c (.int .i64 0)),(.c (.int .i64 0)),(xo 33797),(xo 33798),(xo 33799),(.c (.int .i64 0)),(.c (.int .i64 0)),(.c (.int .i64 0)),(xo 33803),(.c (.bool false)),(xo 33805),(xo 33806),(.c (.str ([]:Bs))),(.c (.str ([]:Bs))),(xo 33809),(xo 33810),(xo 33811)]),(33797,.AP 9 false (.str .nil)),(33798,.AP 9 false (.str .nil)),(33799,.AP 74 false (.str (.str .nil))),(33803,.AP 80 false Tq1),(33805,.AP 80 false Tq1),(33806,.AP 80 false Tq1),(33809,.AP 111 false Tq2),(33810,.AP 111 false Tq2),(33811,.AP 60 false Tq3),(34048,.box [xb,xb,x64,x64,(xo 34821),(xo 34822),(xo 34823),x64,x64,x64,(xo 1008192),xb,(xl Tq1),(xl Tq1),xs,xs,(xo 34833),(xl Tq2),(xo 34835)]),(34821,.arr 9 true (.str .nil)),(34822,.arr 9 true (.str .nil)),(34823,.arr 74 true (.str (.str .nil))),(34833,.arr 111 true Tq2),(34835,.arr 60 true Tq3),(1008192,.arr 80 true Tq1)]⟩,[(3,⟨[(4,.c (.c (.ptr 33792 0))),(5,.c (.c (.ptr 34048 0)))],[(0,.box [(xl (.int .i64 .nil)),x64]),(33792,.box [(.c (.bool false)),(.c (.bool false)),(.c (.int .i64 0)),(.c (.int .i64 0)),(xo 33797),(xo 33798),(xo 33799),(.c (.int .i64 0)),(.c (.int .i64 0)),(.c (.int .i64 0)),(xo 33803),(.c (.bool false)),(xo 33805),(xo 33806),(.c (.str ([]:Bs))),(.c (.str ([]:Bs))),(xo 33809),(xo 33810),(xo 33811)]),(33797,.AP 9 false (.str .nil)),(33798,.AP 9 false (.str .nil)),(33799,.AP 74 false (.str (.str .nil))),(33803,.AP 80 false Tq1),(33805,.AP 80 false Tq1),(33806,.AP 80 false Tq1),(33809,.AP 111 false Tq2),(33810,.AP 111 false Tq2),(33811,.AP 60 false Tq3),(34048,.box [xb,xb,x64,x64,(xo 34821),(xo 34822),(xo 34823),x64,x64,x64,(xo 1012288),xb,(xl Tq1),(xl Tq1),xs,xs,(xo 34833),(xl Tq2),(xo 34835)]),(34821,.arr 9 true (.str .nil)),(34822,.arr 9 true (.str .nil)),(34823,.arr 74 true (.str (.str .nil))),(34833,.arr 111 true Tq2),(34835,.arr 60 true Tq3),(1012288,.arr 80 true Tq1)]⟩)])]⟩
def Wq (N:Nat):Sig:=.of [Ny,Sq2] [Sq2] (fun a=>Nk N a.1 a.2)
theorem jI (N:Nat):Spec Tryz.prog 11 (Wq N):=Ad (C:=ctx Tryz.prog [(32,qE N),(33,BH N),(41,Np N),(42,Xr N),(43,Lr N)] sW) (L:=xW) (fn:=Tryz.f11) (N:=N) (Af ⟨AaE N,BB N,NL N,Yo N,MC N,trivial⟩)
def fE:List (Nat×Nrm):=[(3,⟨[],[],[],[],[]⟩),(18,⟨[9,10,11],[],[],[],[]⟩)]
def lD:Lk:=⟨[],[(18,⟨[(9,.i),(10,.i),(11,.c x64)],[]⟩,[(0,⟨[],[]⟩)])]⟩
def RV (N:Nat):Sig:=.of [.cell false (.sl 80 Tq1)] [.cell false (.int .i64)] (fun a=>IU N a)
theorem YD (N:Nat):Spec Tryz.prog 62 (RV N):=Ad (C:=ctx Tryz.prog [(161,FD N)] fE) (L:=lD) (fn:=Tryz.f62) (N:=N) (Af ⟨G6 N,trivial⟩)
def Oy (N:Nat):Sig:=.of [Sq4,.cell false .bool] [.cell false .str,.cell false (.int .i64)] (fun a=>Gv N a.1 a.2)
theorem Vt (N:Nat):Spec Tryz.prog 154 (Oy N):=Ad (C:=ctx Tryz.prog [(161,FD N),(203,RQ N),(48,DX N)] []) (L:=⟨[],[]⟩) (fn:=Tryz.f154) (N:=N) (Af ⟨G6 N,Y5 N,Dy N,trivial⟩)
def Xx:List (Nat×Nrm):=[(29,⟨[1,2,4,6,12,14],[],[],[],[]⟩),(53,⟨[1,4,6],[],[(some 34304,2,(.sl 177 Tq0 .nil))],[],[]⟩)]
def Y3:Lk:=⟨[(29,⟨[(1,.i),(2,.c (.c (.ptr 33280 0))),(4,.c (.c (.ptr 33792 0))),(6,.c (.c (.ptr 34304 0))),(12,.i),(14,.c xb)],[(33280,.box [x64,xs,xs]),(33792,.box [(.c (.int .i64 0)),(.c (.str ([]:Bs))),(xo 33795)]),(33795,.AP 175 false (.sl 177 Tq0 .nil)),(34304,.box [(.c (.int .i64 0)),(.c (.str ([]:Bs))),(xo 34407)]),(34407,.AP 175 false (.sl 177 Tq0 .nil))]⟩),(53,⟨[(1,.i),(4,.c (.c (.ptr 33792 0))),(6,.c (.c (.ptr 34304 0)))],[(33792,.box [(.c (.int .i64 0)),(.c (.str ([]:Bs))),(xo 33795)]),(33795,.AP 175 false (.sl 177 Tq0 .nil)),(34304,.box [x64,xs,(xl (.sl 177 Tq0 .nil))])]⟩)],[]⟩
def Ov (N:Nat):Sig:=.of [Sq9,.cell false .bool] [Sq4,.cell false (.int .i64)] (fun a=>Gu N a.1 a.2)
theorem Vs (N:Nat):Spec Tryz.prog 225 (Ov N):=Ad (C:=ctx Tryz.prog [(265,RP N),(161,FD N)] Xx) (L:=Y3) (fn:=Tryz.f225) (N:=N) (Af ⟨Y4 N,G6 N,trivial⟩)
end
noncomputable section
def Jh (N:Nat):Sig:=.of [Sq4,.cell false .bool] [.cell false (.int .i64)] (fun a=>FP N a.1 a.2)
theorem IG (N:Nat):Spec Tryz.prog 157 (Jh N):=Ad (C:=ctx Tryz.prog [(205,wZ N),(167,Jf N),(206,Rx N)] []) (L:=⟨[],[]⟩) (fn:=Tryz.f157) (N:=N) (Af ⟨Aci N,IE N,Ye N,trivial⟩)
def wK:List (Nat×Nrm):=[(3,⟨[5],[([5],9,(.str .nil),1012288)],[],[(1000000,1012288)],[]⟩),(11,⟨[5,8,21,22,23],[([8],9,(.str .nil),1008192),([5],9,(.str .nil),1008208)],[],[(1004096,1008192),(1004112,1008208)],[]⟩),(26,⟨[5,21,22,23],[([5],9,(.str .nil),1000000)],[],[(47872,1000000)],[]⟩),(42,⟨[5,8,21,22,23,27,28,29],[([8],9,(.str .nil),1004096),([5],9,(.str .nil),1004112)],[],[(44032,1004096),(1000000,1004112)],[]⟩)]
def Aav:Lk:=⟨[],[(26,⟨[(5,.c (xo 1000000)),(21,.i),(22,.i),(23,.c x64)],[(1000000,.arr 9 false (.str .nil))]⟩,[(0,⟨[(5,.c (xo 1012288))],[(1012288,.arr 9 false (.str .nil))]⟩)]),(42,⟨[(5,.c (xo 1004112)),(8,.c (xo 1004096)),(21,.i),(22,.i),(23,.i),(27,.i),(28,.i),(29,.c x64)],[(1004096,.arr 9 false (.str .nil)),(1004112,.arr 9 false (.str .nil))]⟩,[(2,⟨[(5,.c (xo 1008208)),(8,.c (xo 1008192)),(21,.i),(22,.i),(23,.i)],[(1008192,.arr 9 false (.str .nil)),(1008208,.arr 9 false (.str .nil))]⟩)])]⟩
def XZ (N:Nat):Sig:=.of [Sq0] [.cell false .str,.cell false (.int .i64)] (fun a=>OU N a)
theorem oG (N:Nat):Spec Tryz.prog 166 (XZ N):=Ad (C:=ctx Tryz.prog [(167,Jf N),(216,LU N),(217,X4 N),(164,IX N)] wK) (L:=Aav) (fn:=Tryz.f166) (N:=N) (Af ⟨IE N,Sr N,Abh N,GK N,trivial⟩)
def ZY:List (Nat×Nrm):=[(3,⟨[],[],[],[],[]⟩),(18,⟨[10,11,12],[],[],[],[]⟩)]
def fB:Lk:=⟨[],[(18,⟨[(10,.i),(11,.i),(12,.c x64)],[]⟩,[(0,⟨[],[]⟩)])]⟩
def Gx (N:Nat):Sig:=.of [.cell false (.sl 111 Tq2)] [.cell false (.int .i64)] (fun a=>CU N a)
theorem H7 (N:Nat):Spec Tryz.prog 25 (Gx N):=Ad (C:=ctx Tryz.prog [(62,RV N),(80,F5 N)] ZY [] [] [] [20,24,25,29,35,36]) (L:=fB) (fn:=Tryz.f25) (N:=N) (Af ⟨YD N,FH N,trivial⟩)
def eU:List (Nat×Nrm):=[(3,⟨[4],[],[],[],[]⟩),(30,⟨[4,15,16,17],[],[],[],[]⟩)]
def kW:Lk:=⟨[],[(30,⟨[(4,.c xs),(15,.i),(16,.i),(17,.c x64)],[]⟩,[(0,⟨[(4,.c xs)],[]⟩)])]⟩
def KH (N:Nat):Sig:=.of [.cell false (.sl 80 Tq1)] [.cell false .str,.cell false (.int .i64)] (fun a=>Gp N a)
theorem Oz (N:Nat):Spec Tryz.prog 51 (KH N):=Ad (C:=ctx Tryz.prog [(154,Oy N)] eU) (L:=kW) (fn:=Tryz.f51) (N:=N) (Af ⟨Vt N,trivial⟩)
def wI:List (Nat×Nrm):=[(3,⟨[2,4,8],[],[],[(34817,1004096),(1000000,1004096)],[]⟩),(50,⟨[2,4,8,37,38,39],[],[],[(34817,1000000),(47104,1000000)],[]⟩)]
def Aau:Lk:=⟨[],[(50,⟨[(2,.c (.c (.ptr 33280 0))),(4,.c (.c (.ptr 33792 0))),(8,.c (.c (.ptr 34816 0))),(37,.i),(38,.i),(39,.c x64)],[(33280,.box [(xo 33281)]),(33281,.AP 175 false (.sl 177 Tq0 .nil)),(33792,.box [(xo 33793)]),(33793,.AP 175 false (.sl 177 Tq0 .nil)),(34816,.box [(xo 1000000)]),(1000000,.arr 175 false (.sl 177 Tq0 .nil))]⟩,[(0,⟨[(2,.c (.c (.ptr 33280 0))),(4,.c (.c (.ptr 33792 0))),(8,.c (.c (.ptr 34816 0)))],[(33280,.box [(xo 33281)]),(33281,.AP 175 false (.sl 177 Tq0 .nil)),(33792,.box [(xo 33793)]),(33793,.AP 175 false (.sl 177 Tq0 .nil)),(34816,.box [(xo 1004096)]),(1004096,.arr 175 false (.sl 177 Tq0 .nil))]⟩)])]⟩
def XY (N:Nat):Sig:=.of [.cell false .str] [Sq0,.cell false (.int .i64)] (fun a=>OT N a)
theorem oD (N:Nat):Spec Tryz.prog 263 (XY N):=Ad (C:=ctx Tryz.prog [(207,WU N),(220,LJ N),(289,ML N),(167,Jf N)] wI) (L:=Aau) (fn:=Tryz.f263) (N:=N) (Af ⟨V8 N,Jt N,TU N,IE N,trivial⟩)
def eH:List (Nat×Nrm):=[(3,⟨[6],[([6],80,Tq1,1004096)],[],[(1000000,1004096)],[]⟩),(42,⟨[6,25,26,27],[([6],80,Tq1,1000000)],[],[(43520,1000000)],[]⟩)]
def kU:Lk:=⟨[],[(42,⟨[(6,.c (xo 1000000)),(25,.i),(26,.i),(27,.c x64)],[(1000000,.arr 80 false Tq1)]⟩,[(0,⟨[(6,.c (xo 1004096))],[(1004096,.arr 80 false Tq1)]⟩)])]⟩
def KG (N:Nat):Sig:=.of [.cell false .str] [.cell false (.sl 80 Tq1),.cell false (.int .i64)] (fun a=>Gm N a)
theorem Ox (N:Nat):Spec Tryz.prog 178 (KG N):=Ad (C:=ctx Tryz.prog [(83,PD N),(225,Ov N)] eH) (L:=kU) (fn:=Tryz.f178) (N:=N) (Af ⟨PE N,Vs N,trivial⟩)
end
noncomputable section
def XD:List (Nat×Nrm):=[(3,⟨[],[],[],[],[]⟩),(10,⟨[6,7,8],[],[],[],[]⟩)]
def YV:Lk:=⟨[],[(10,⟨[(6,.i),(7,.i),(8,.c x64)],[]⟩,[(0,⟨[],[]⟩)])]⟩
def IA (N:Nat):Sig:=.of [.cell false (.sl 80 Tq1)] [.cell false (.int .i64)] (fun a=>EW N a)
theorem LP (N:Nat):Spec Tryz.prog 56 (IA N):=Ad (C:=ctx Tryz.prog [(157,Jh N)] XD) (L:=YV) (fn:=Tryz.f56) (N:=N) (Af ⟨IG N,trivial⟩)
def vC:List (Nat×Nrm):=[(3,⟨[],[],[],[],[]⟩),(11,⟨[32,33,34],[],[],[],[]⟩),(26,⟨[32,33,34],[],[],[],[]⟩),(38,⟨[32,33,34,38,39,40],[],[],[],[]⟩)]
def zN:Lk:=⟨[],[(26,⟨[(32,.c (xo 40960)),(33,.i),(34,.c x64)],[(40960,.arr 24 false (.sl 80 Tq1 .nil))]⟩,[(0,⟨[],[]⟩)]),(38,⟨[(32,.c (xo 40960)),(33,.i),(34,.i),(38,.i),(39,.i),(40,.c x64)],[(40960,.arr 24 false (.sl 80 Tq1 .nil))]⟩,[(2,⟨[(32,.c (xo 40960)),(33,.i),(34,.i)],[(40960,.arr 24 false (.sl 80 Tq1 .nil))]⟩)])]⟩
def PZ (N:Nat):Sig:=.of [Sq7] [.cell false (.int .i64)] (fun a=>Tc N a)
theorem RY (N:Nat):Spec Tryz.prog 158 (PZ N):=Ad (C:=ctx Tryz.prog [(157,Jh N)] vC) (L:=zN) (fn:=Tryz.f158) (N:=N) (Af ⟨IG N,trivial⟩)
def Lm (N:Nat):Sig:=.of [Sq4,.cell false .bool] [.cell false .str,.cell false (.int .i64)] (fun a=>EY N a.1 a.2)
theorem Me (N:Nat):Spec Tryz.prog 74 (Lm N):=Ad (C:=ctx Tryz.prog [(157,Jh N),(164,IX N),(166,XZ N)] []) (L:=⟨[],[]⟩) (fn:=Tryz.f74) (N:=N) (Af ⟨IG N,GK N,oG N,trivial⟩)
def TE (N:Nat):Sig:=.of [Sq0] [.cell false .str] (fun a=>JP N a)
theorem aC (N:Nat):Spec Tryz.prog 76 (TE N):=Ad (C:=ctx Tryz.prog [(51,KH N)] []) (L:=⟨[],[]⟩) (fn:=Tryz.f76) (N:=N) (Af ⟨Oz N,trivial⟩)
def TF (N:Nat):Sig:=.of [.cell false (.sl 80 Tq1)] [.cell false .str] (fun a=>GZ N a)
theorem aF (N:Nat):Spec Tryz.prog 77 (TF N):=Ad (C:=ctx Tryz.prog [(51,KH N),(48,DX N)] []) (L:=⟨[],[]⟩) (fn:=Tryz.f77) (N:=N) (Af ⟨Oz N,Dy N,trivial⟩)
def wY:List (Nat×Nrm):=[(29,⟨[1,2,4,6,11,13],[],[],[],[]⟩),(53,⟨[1,4,6],[],[(some 34304,2,(.sl 177 Tq0 .nil))],[],[]⟩)]
def Aa4:Lk:=⟨[(29,⟨[(1,.i),(2,.c (.c (.ptr 33280 0))),(4,.c (.c (.ptr 33792 0))),(6,.c (.c (.ptr 34304 0))),(11,.i),(13,.c xb)],[(33280,.box [x64,xs,xs]),(33792,.box [(.c (.int .i64 0)),(.c (.str ([]:Bs))),(xo 33795)]),(33795,.AP 175 false (.sl 177 Tq0 .nil)),(34304,.box [(.c (.int .i64 0)),(.c (.str ([]:Bs))),(xo 34307)]),(34307,.AP 175 false (.sl 177 Tq0 .nil))]⟩),(53,⟨[(1,.i),(4,.c (.c (.ptr 33792 0))),(6,.c (.c (.ptr 34304 0)))],[(33792,.box [(.c (.int .i64 0)),(.c (.str ([]:Bs))),(xo 33795)]),(33795,.AP 175 false (.sl 177 Tq0 .nil)),(34304,.box [x64,xs,(xl (.sl 177 Tq0 .nil))])]⟩)],[]⟩
def Yd (N:Nat):Sig:=.of [Sq9,.cell false .bool] [Sq4,.cell false (.int .i64)] (fun a=>OY N a.1 a.2)
theorem oH (N:Nat):Spec Tryz.prog 222 (Yd N):=Ad (C:=ctx Tryz.prog [(263,XY N),(157,Jh N)] wY) (L:=Aa4) (fn:=Tryz.f222) (N:=N) (Af ⟨oD N,IG N,trivial⟩)
end
noncomputable section
def O9 (N:Nat):Sig:=.of [Ad5] [.cell false (.sl 80 Tq1),.cell false (.int .i64)] (fun a=>EE N a)
theorem V3 (N:Nat):Spec Tryz.prog 90 (O9 N):=Ad (C:=ctx Tryz.prog [(92,GX N),(177,SV N),(178,KG N)] []) (L:=⟨[],[]⟩) (fn:=Tryz.f90) (N:=N) (Af ⟨Iq N,V4 N,Ox N,trivial⟩)
def PS (N:Nat):Sig:=.of [.cell false .str] [Sq0,.cell false (.int .i64)] (fun a=>Eh N a)
theorem VQ (N:Nat):Spec Tryz.prog 93 (PS N):=Ad (C:=ctx Tryz.prog [(178,KG N)] []) (L:=⟨[],[]⟩) (fn:=Tryz.f93) (N:=N) (Af ⟨Ox N,trivial⟩)
end
noncomputable section
def XF:List (Nat×Nrm):=[(13,⟨[1,4],[],[],[],[]⟩)]
def YW:Lk:=⟨[(13,⟨[(1,.c (.c (.ptr 33024 0))),(4,.c xb)],[(33024,.box [(xl Tq1),x64,xb,(xl (.sl 177 Tq0 .nil))])]⟩)],[]⟩
def OE (N:Nat):Sig:=.of [Sq5] [.cell false (.int .i64)] (fun a=>GM N a)
theorem VG (N:Nat):Spec Tryz.prog 79 (OE N):=Ad (C:=ctx Tryz.prog [(56,IA N),(167,Jf N)] XF) (L:=YW) (fn:=Tryz.f79) (N:=N) (Af ⟨LP N,IE N,trivial⟩)
def Jc (N:Nat):Sig:=.of [Sq2] [.cell false (.int .i64)] (fun a=>JX N a)
theorem Qb (N:Nat):Spec Tryz.prog 57 (Jc N):=Ad (C:=ctx Tryz.prog [(158,PZ N)] []) (L:=⟨[],[]⟩) (fn:=Tryz.f57) (N:=N) (Af ⟨RY N,trivial⟩)
def dW:List (Nat×Nrm):=[(3,⟨[5],[],[],[],[]⟩),(26,⟨[5,16,17,18],[],[],[],[]⟩)]
def iV:Lk:=⟨[],[(26,⟨[(5,.c xs),(16,.i),(17,.i),(18,.c x64)],[]⟩,[(0,⟨[(5,.c xs)],[]⟩)])]⟩
def Ku (N:Nat):Sig:=.of [.cell false (.sl 80 Tq1)] [.cell false .str,.cell false (.int .i64)] (fun a=>EG N a)
theorem Oo (N:Nat):Spec Tryz.prog 72 (Ku N):=Ad (C:=ctx Tryz.prog [(165,Sv N),(74,Lm N)] dW) (L:=iV) (fn:=Tryz.f72) (N:=N) (Af ⟨UN N,Me N,trivial⟩)
def YI:List (Nat×Nrm):=[(3,⟨[0,6],[([6],9,(.str .nil),1004096)],[],[(1000000,1004096)],[]⟩),(22,⟨[0,6,15,16,17],[([6],9,(.str .nil),1000000)],[],[(43264,1000000)],[]⟩)]
def aQ:Lk:=⟨[],[(22,⟨[(0,.i),(6,.c (xo 1000000)),(15,.i),(16,.i),(17,.c x64)],[(1000000,.arr 9 false (.str .nil))]⟩,[(0,⟨[(0,.i),(6,.c (xo 1004096))],[(1004096,.arr 9 false (.str .nil))]⟩)])]⟩
def Qa (N:Nat):Sig:=.of [.cell false (.int .i64),.cell false (.sl 80 Tq1)] [.cell false .str,.cell false (.int .i64)] (fun a=>KR N a.1 a.2)
theorem VT (N:Nat):Spec Tryz.prog 238 (Qa N):=Ad (C:=ctx Tryz.prog [(74,Lm N),(164,IX N)] YI) (L:=aQ) (fn:=Tryz.f238) (N:=N) (Af ⟨Me N,GK N,trivial⟩)
def YB:List (Nat×Nrm):=[(3,⟨[5],[],[],[],[]⟩),(34,⟨[5,17,18,19],[],[],[],[]⟩),(53,⟨[5,7,8,17,18,19],[],[],[],[]⟩)]
def aA:Lk:=⟨[(53,⟨[(5,.i),(7,.c (.c (.ptr 34560 0))),(8,.c xs),(17,.i),(18,.i),(19,.i)],[(34560,.box [(xl Tq1),x64,xb,(xl (.sl 177 Tq0 .nil))])]⟩)],[(34,⟨[(5,.c xs),(17,.i),(18,.i),(19,.c x64)],[]⟩,[(0,⟨[(5,.c xs)],[]⟩)])]⟩
def PR (N:Nat):Sig:=.of [.cell false (.sl 111 Tq2)] [.cell false .str,.cell false (.int .i64)] (fun a=>Eg N a)
theorem VP (N:Nat):Spec Tryz.prog 23 (PR N):=Ad (C:=ctx Tryz.prog [(25,Gx N),(76,TE N),(48,DX N),(77,TF N),(49,bW N),(78,qN N)] YB) (L:=aA) (fn:=Tryz.f23) (N:=N) (Af ⟨H7 N,aC N,Dy N,aF N,uX N,AaW N,trivial⟩)
def dU:List (Nat×Nrm):=[(3,⟨[7],[([7],80,Tq1,1004096)],[],[(1000000,1004096)],[]⟩),(38,⟨[7,26,27,28],[([7],80,Tq1,1000000)],[],[(43776,1000000)],[]⟩)]
def iU:Lk:=⟨[],[(38,⟨[(7,.c (xo 1000000)),(26,.i),(27,.i),(28,.c x64)],[(1000000,.arr 80 false Tq1)]⟩,[(0,⟨[(7,.c (xo 1004096))],[(1004096,.arr 80 false Tq1)]⟩)])]⟩
def Rw (N:Nat):Sig:=.of [.cell false .str] [.cell false (.sl 80 Tq1),.cell false (.int .i64)] (fun a=>Ec N a)
theorem Yc (N:Nat):Spec Tryz.prog 174 (Rw N):=Ad (C:=ctx Tryz.prog [(220,LJ N),(165,Sv N),(222,Yd N)] dU) (L:=iU) (fn:=Tryz.f174) (N:=N) (Af ⟨Jt N,UN N,oH N,trivial⟩)
def YA:List (Nat×Nrm):=[(3,⟨[6],[([6],111,Tq2,1008192)],[],[(1000000,1008192)],[]⟩),(34,⟨[6,29,30,31],[([6],111,Tq2,1000000)],[],[(54016,1000000)],[]⟩),(105,⟨[6,9,11,29,30,31],[([6],111,Tq2,1004096)],[(some 35584,3,(.sl 177 Tq0 .nil))],[(1000000,1004096)],[]⟩)]
def ZZ:Lk:=⟨[(105,⟨[(6,.c (xo 1004096)),(9,.c (.c (.ptr 35072 0))),(11,.c (.c (.ptr 35584 0))),(29,.i),(30,.i),(31,.i)],[(35072,.box [(xl Tq6),x64]),(35584,.box [(xl Tq1),x64,xb,(xl (.sl 177 Tq0 .nil))]),(1004096,.arr 111 false Tq2)]⟩)],[(34,⟨[(6,.c (xo 1000000)),(29,.i),(30,.i),(31,.c x64)],[(1000000,.arr 111 false Tq2)]⟩,[(0,⟨[(6,.c (xo 1008192))],[(1008192,.arr 111 false Tq2)]⟩)])]⟩
def PO (N:Nat):Sig:=.of [.cell false .str] [.cell false (.sl 111 Tq2),.cell false (.int .i64)] (fun a=>Fa N a)
theorem VO (N:Nat):Spec Tryz.prog 29 (PO N):=Ad (C:=ctx Tryz.prog [(88,lG N),(89,KJ N),(90,O9 N),(91,PT N),(92,GX N),(93,PS N),(94,KI N),(25,Gx N)] YA) (L:=ZZ) (fn:=Tryz.f29) (N:=N) (Af ⟨zF N,JM N,V3 N,VR N,Iq N,VQ N,O6 N,H7 N,trivial⟩)
end
noncomputable section
def WZ:List (Nat×Nrm):=[(3,⟨[],[],[],[],[]⟩),(18,⟨[9,10,11],[],[],[],[]⟩)]
def X9:Lk:=⟨[],[(18,⟨[(9,.i),(10,.i),(11,.c x64)],[]⟩,[(0,⟨[],[]⟩)])]⟩
def Ee (N:Nat):Sig:=.of [.cell false (.sl 111 Tq2)] [.cell false (.int .i64)] (fun a=>BN N a)
theorem Eo (N:Nat):Spec Tryz.prog 24 (Ee N):=Ad (C:=ctx Tryz.prog [(79,OE N)] WZ) (L:=X9) (fn:=Tryz.f24) (N:=N) (Af ⟨VG N,trivial⟩)
def gV (N:Nat):Sig:=.of [.box [(false,.bool)],Sq2] [.cell false .str] (fun a=>N9 N a.1 a.2)
theorem XM (N:Nat):Spec Tryz.prog 132 (gV N):=Ad (C:=ctx Tryz.prog [(72,Ku N),(71,CS N),(75,Dk N)] []) (L:=⟨[],[]⟩) (fn:=Tryz.f132) (N:=N) (Af ⟨Oo N,CJ N,CQ N,trivial⟩)
def V6 (N:Nat):Sig:=.of [Sq7] [.cell false .str,.cell false (.int .i64)] (fun a=>YH N a)
theorem fF (N:Nat):Spec Tryz.prog 200 (V6 N):=Ad (C:=ctx Tryz.prog [(158,PZ N),(238,Qa N),(164,IX N)] []) (L:=⟨[],[]⟩) (fn:=Tryz.f200) (N:=N) (Af ⟨RY N,VT N,GK N,trivial⟩)
def Xd:List (Nat×Nrm):=[(45,⟨[0,2,4,5],[],[(some 34048,0,Tq1)],[],[]⟩),(73,⟨[0,2,4,5],[],[],[],[]⟩),(105,⟨[0,2,4,5],[],[(some 34048,3,(.sl 177 Tq0 .nil))],[],[]⟩)]
def XG:Lk:=⟨[(45,⟨[(0,.c (.c (.ptr 0 0))),(2,.c (.c (.ptr 33280 0))),(4,.c (.c (.ptr 33792 0))),(5,.c (.c (.ptr 34048 0)))],[(0,.box [(xl Tq6)]),(33280,.box [(xo 33281),(.c (.int .i64 0)),(.c (.bool false)),(xo 33284)]),(33281,.AP 80 false Tq1),(33284,.AP 175 false (.sl 177 Tq0 .nil)),(33792,.box [(xo 33793),(.c (.int .i64 0)),(.c (.bool false)),(xo 33796)]),(33793,.AP 80 false Tq1),(33796,.AP 175 false (.sl 177 Tq0 .nil)),(34048,.box [(xl Tq1),(.c (.int .i64 0)),(.c (.bool false)),(xo 34052)]),(34052,.AP 175 false (.sl 177 Tq0 .nil))]⟩),(73,⟨[(0,.c (.c (.ptr 0 0))),(2,.c (.c (.ptr 33280 0))),(4,.c (.c (.ptr 33792 0))),(5,.c (.c (.ptr 34048 0)))],[(0,.box [(xl Tq6)]),(33280,.box [(xo 33281),(.c (.int .i64 0)),(.c (.bool false)),(xo 33284)]),(33281,.AP 80 false Tq1),(33284,.AP 175 false (.sl 177 Tq0 .nil)),(33792,.box [(xo 33793),(.c (.int .i64 0)),(.c (.bool false)),(xo 33796)]),(33793,.AP 80 false Tq1),(33796,.AP 175 false (.sl 177 Tq0 .nil)),(34048,.box [(xl Tq1),x64,(.c (.bool false)),(xo 34052)]),(34052,.AP 175 false (.sl 177 Tq0 .nil))]⟩),(105,⟨[(0,.c (.c (.ptr 0 0))),(2,.c (.c (.ptr 33280 0))),(4,.c (.c (.ptr 33792 0))),(5,.c (.c (.ptr 34048 0)))],[(0,.box [(xl Tq6)]),(33280,.box [(xo 33281),(.c (.int .i64 0)),(.c (.bool false)),(xo 33284)]),(33281,.AP 80 false Tq1),(33284,.AP 175 false (.sl 177 Tq0 .nil)),(33792,.box [(xo 33793),(.c (.int .i64 0)),(.c (.bool false)),(xo 33796)]),(33793,.AP 80 false Tq1),(33796,.AP 175 false (.sl 177 Tq0 .nil)),(34048,.box [(xl Tq1),x64,xb,(xl (.sl 177 Tq0 .nil))])]⟩)],[]⟩
def Oh (N:Nat):Sig:=.of [WX] [Sq5,.cell false (.int .i64)] (fun a=>Gs N a)
theorem UA (N:Nat):Spec Tryz.prog 87 (Oh N):=Ad (C:=ctx Tryz.prog [(173,UI N),(170,iF N),(174,Rw N),(175,kD N),(176,Tj N)] Xd) (L:=XG) (fn:=Tryz.f87) (N:=N) (Af ⟨dS N,iG N,Yc N,yP N,Zj N,trivial⟩)
end
noncomputable section
def rF:List (Nat×Nrm):=[(3,⟨[1,10],[],[],[],[]⟩),(130,⟨[1,10,120,121,122],[],[],[],[]⟩)]
def vX:Lk:=⟨[],[(130,⟨[(1,.c (.c (.ptr 33024 0))),(10,.c x64),(120,.i),(121,.i),(122,.c x64)],[(33024,.box [xb,xb,x64,x64,(xl (.str .nil)),(xl (.str .nil)),(xl (.str (.str .nil))),x64,x64,x64,(xl Tq1),xb,(xl Tq1),(xl Tq1),xs,xs,(xl Tq2),(xl Tq2),(xl Tq3)])]⟩,[(0,⟨[(1,.c (.c (.ptr 33024 0))),(10,.c x64)],[(33024,.box [xb,xb,x64,x64,(xl (.str .nil)),(xl (.str .nil)),(xl (.str (.str .nil))),x64,x64,x64,(xl Tq1),xb,(xl Tq1),(xl Tq1),xs,xs,(xl Tq2),(xl Tq2),(xl Tq3)])]⟩)])]⟩
def We (N:Nat):Sig:=.of [Sq2] [.cell false (.int .i64)] (fun a=>bD N a)
theorem gI (N:Nat):Spec Tryz.prog 15 (We N):=Ad (C:=ctx Tryz.prog [(53,XT N),(54,Ro N),(55,LM N),(56,IA N),(57,Jc N),(24,Ee N),(44,La N),(58,MK N)] rF [] [(127,iH N)] [] [15,19,20,24,28,29,34,39,40,45,46,51,52,56,57,61]) (L:=vX) (fn:=Tryz.f15) (N:=N) (Af ⟨oC N,XB N,Sj N,LP N,Qb N,Eo N,Md N,TR N,trivial⟩ trivial ⟨wG N,trivial⟩)
def UB (N:Nat):Sig:=.of [.box [(false,.bool)],Sq2] [.cell false .str] (fun a=>Hq N a.1 a.2)
theorem Rq (N:Nat):Spec Tryz.prog 135 (UB N):=Ad (C:=ctx Tryz.prog [(200,V6 N),(71,CS N)] []) (L:=⟨[],[]⟩) (fn:=Tryz.f135) (N:=N) (Af ⟨fF N,CJ N,trivial⟩)
def VE:List (Nat×Nrm):=[(3,⟨[5,6],[([6],9,(.str .nil),1016384)],[],[(1000000,1016384)],[]⟩),(38,⟨[5,6,22,23,24],[([6],9,(.str .nil),1000000)],[],[(54272,1000000)],[]⟩),(57,⟨[5,6,8,9,22,23,24],[([6],9,(.str .nil),1004096)],[],[(1000000,1004096)],[]⟩),(65,⟨[5,6,8,9,22,23,24],[([6],9,(.str .nil),1008192)],[],[(1004096,1008192)],[]⟩),(77,⟨[5,6,9,22,23,24],[([6],9,(.str .nil),1012288)],[],[(1008192,1012288)],[]⟩)]
def Xb:Lk:=⟨[(57,⟨[(5,.c (.c (.ptr 38144 0))),(6,.c (xo 1004096)),(8,.c (.c (.ptr 34816 0))),(9,.c (xo 39936)),(22,.i),(23,.i),(24,.i)],[(34816,.box [(xl Tq1),x64,xb,(xl (.sl 177 Tq0 .nil))]),(38144,.box [xb]),(39936,.arr 9 false (.str .nil)),(1004096,.arr 9 false (.str .nil))]⟩),(65,⟨[(5,.c (.c (.ptr 38144 0))),(6,.c (xo 1008192)),(8,.c (.c (.ptr 34816 0))),(9,.c (xo 39936)),(22,.i),(23,.i),(24,.i)],[(34816,.box [(xl Tq1),x64,xb,(xl (.sl 177 Tq0 .nil))]),(38144,.box [xb]),(39936,.arr 9 false (.str .nil)),(1008192,.arr 9 false (.str .nil))]⟩),(77,⟨[(5,.c (.c (.ptr 38144 0))),(6,.c (xo 1012288)),(9,.c (xo 39936)),(22,.i),(23,.i),(24,.i)],[(38144,.box [xb]),(39936,.arr 9 false (.str .nil)),(1012288,.arr 9 false (.str .nil))]⟩)],[(38,⟨[(5,.c (.c (.ptr 38144 0))),(6,.c (xo 1000000)),(22,.i),(23,.i),(24,.c x64)],[(38144,.box [xb]),(1000000,.arr 9 false (.str .nil))]⟩,[(0,⟨[(5,.c (.c (.ptr 38144 0))),(6,.c (xo 1016384))],[(38144,.box [xb]),(1016384,.arr 9 false (.str .nil))]⟩)])]⟩
def EM (N:Nat):Sig:=.of [.cell false (.sl 111 Tq2)] [.cell false .str,.cell false (.int .i64)] (fun a=>Dj N a)
theorem F8 (N:Nat):Spec Tryz.prog 22 (EM N):=Ad (C:=ctx Tryz.prog [(24,Ee N),(72,Ku N),(71,CS N),(70,CE N),(73,P5 N),(74,Lm N),(75,Dk N),(45,NF N)] VE) (L:=Xb) (fn:=Tryz.f22) (N:=N) (Af ⟨Eo N,Oo N,CJ N,Cb N,RN N,Me N,CQ N,Qc N,trivial⟩)
def VC:List (Nat×Nrm):=[(3,⟨[6],[([6],111,Tq2,1004096)],[],[(1000000,1004096)],[]⟩),(30,⟨[4,6],[([6],111,Tq2,1000000)],[],[(44032,1000000)],[]⟩)]
def Xa:Lk:=⟨[],[(30,⟨[(4,.c (.c (.ptr 36096 0))),(6,.c (xo 1000000))],[(36096,.box [(xl Tq6)]),(1000000,.arr 111 false Tq2)]⟩,[(0,⟨[(6,.c (xo 1004096))],[(1004096,.arr 111 false Tq2)]⟩)])]⟩
def MJ (N:Nat):Sig:=.of [.cell false .str] [.cell false (.sl 111 Tq2),.cell false (.int .i64)] (fun a=>Ep N a)
theorem TQ (N:Nat):Spec Tryz.prog 28 (MJ N):=Ad (C:=ctx Tryz.prog [(85,Tm N),(87,Oh N),(24,Ee N)] VC [(84,Zi N),(86,J8 N)]) (L:=Xa) (fn:=Tryz.f28) (N:=N) (Af ⟨Zk N,UA N,Eo N,trivial⟩ ⟨AdO N,XX N,trivial⟩)
end
noncomputable section
def dH (N:Nat):Sig:=.of [.box [(false,.bool)],Sq2] [.cell false .str] (fun a=>Mc N a.1 a.2)
theorem Xh (N:Nat):Spec Tryz.prog 144 (dH N):=Ad (C:=ctx Tryz.prog [(22,EM N),(71,CS N)] []) (L:=⟨[],[]⟩) (fn:=Tryz.f144) (N:=N) (Af ⟨F8 N,CJ N,trivial⟩)
def XJ (N:Nat):Sig:=.of [.box [(false,.bool)],Sq2] [.cell false .str] (fun a=>J4 N a.1 a.2)
theorem UC (N:Nat):Spec Tryz.prog 147 (XJ N):=Ad (C:=ctx Tryz.prog [(22,EM N),(71,CS N)] []) (L:=⟨[],[]⟩) (fn:=Tryz.f147) (N:=N) (Af ⟨F8 N,CJ N,trivial⟩)
end
noncomputable section
def Abt (N n:Nat):Sig:=.of [.box [(false,.bool)],Sq2] [.cell false .str] (Agd N n)
theorem AgY (N:Nat):lZ Tryz.prog (Abt N):=Aar (Ag:=[.box [(false,.bool)],Sq2]) (AA:=[.cell false .str]) (l:=[(111,fun a=>N8 N a.1 a.2),(114,fun a=>NC N a.1 a.2),(117,fun a=>J7 N a.1 a.2),(120,fun a=>J6 N a.1 a.2),(123,fun a=>J5 N a.1 a.2),(126,fun a=>LZ N a.1 a.2),(129,fun a=>JZ N a.1 a.2),(132,fun a=>N9 N a.1 a.2),(135,fun a=>Hq N a.1 a.2),(138,fun a=>Ko N a.1 a.2),(141,fun a=>IB N a.1 a.2),(144,fun a=>Mc N a.1 a.2),(147,fun a=>J4 N a.1 a.2)]) ⟨XI N,XR N,UF N,UE N,UD N,Xf N,VI N,XM N,Rq N,VJ N,TS N,Xh N,UC N,trivial⟩
end
noncomputable section
def nY:List (Nat×Nrm):=[(3,⟨[1,5,6],[([6],60,Tq3,1004096)],[],[(1000000,1004096)],[]⟩),(30,⟨[1,5,6,16,17,18],[([6],60,Tq3,1000000)],[],[(44032,1000000)],[]⟩)]
def rG:Lk:=⟨[],[(30,⟨[(1,.c (.c (.ptr 33024 0))),(5,.c (.c (.ptr 36608 0))),(6,.c (xo 1000000)),(16,.i),(17,.i),(18,.c x64)],[(33024,.box [xb,xb,x64,x64,(xl (.str .nil)),(xl (.str .nil)),(xl (.str (.str .nil))),x64,x64,x64,(xl Tq1),xb,(xl Tq1),(xl Tq1),xs,xs,(xl Tq2),(xl Tq2),(xl Tq3)]),(36608,.box [xb]),(1000000,.arr 60 false Tq3)]⟩,[(0,⟨[(1,.c (.c (.ptr 33024 0))),(5,.c (.c (.ptr 36608 0))),(6,.c (xo 1004096))],[(33024,.box [xb,xb,x64,x64,(xl (.str .nil)),(xl (.str .nil)),(xl (.str (.str .nil))),x64,x64,x64,(xl Tq1),xb,(xl Tq1),(xl Tq1),xs,xs,(xl Tq2),(xl Tq2),(xl Tq3)]),(36608,.box [xb]),(1004096,.arr 60 false Tq3)]⟩)])]⟩
def Uz (N:Nat):Sig:=.of [Sq2] [.cell false (.sl 60 Tq3),.cell false (.int .i64)] (fun a=>Qo N a)
theorem dA (N:Nat):Spec Tryz.prog 13 (Uz N):=Ad (C:=ctx Tryz.prog [(15,We N),(44,La N),(45,NF N)] nY [] [(23,iH N),(38,Abt N)]) (L:=rG) (fn:=Tryz.f13) (N:=N) (Af ⟨gI N,Md N,Qc N,trivial⟩ trivial ⟨wG N,AgY N,trivial⟩)
end
noncomputable section
def bG (N:Nat):Sig:=.of [] [.cell false .bool] (fun _=>MP N)
theorem sV (N:Nat):Spec Tryz.prog 10 (bG N):=Ad (C:=ctx Tryz.prog [(19,XA N),(13,Uz N)] [] [] [] [] [22,26,27,33,34,37,38,42]) (L:=⟨[],[]⟩) (fn:=Tryz.f10) (N:=N) (Af ⟨nZ N,dA N,trivial⟩)
end
noncomputable section
def Xp:List (Nat×Nrm):=[(3,⟨[1,7,8],[],[],[],[]⟩),(11,⟨[],[],[],[],[]⟩),(26,⟨[1,7,8,41,42,43],[],[],[],[]⟩),(62,⟨[89,90,91],[],[],[],[]⟩)]
def Ym:Lk:=⟨[],[(26,⟨[(1,.i),(7,.c (.c (.ptr 41216 0))),(8,.i),(41,.c (xo 43264)),(42,.i),(43,.c x64)],[(41216,.box [(xl (.int .i64 .nil)),x64]),(43264,.arr 27 false (.sl 111 Tq2 .nil))]⟩,[(0,⟨[(1,.i),(7,.c (.c (.ptr 41216 0))),(8,.i)],[(41216,.box [(xl (.int .i64 .nil)),x64])]⟩)]),(62,⟨[(89,.c (xo 55552)),(90,.i),(91,.c x64)],[(55552,.arr 9 false (.str .nil))]⟩,[(2,⟨[],[]⟩)])]⟩
def Yn (N:Nat):Sig:=.of [.cell false (.sl 111 Tq2),.cell false .str,Ag3] [.cell false .bool] (fun a=>ED N a.1 a.2.1 a.2.2)
theorem UU (N:Nat):Spec Tryz.prog 4 (Yn N):=Ad (C:=ctx Tryz.prog [(21,RH N),(10,bG N),(12,y8 N),(11,Wq N),(22,EM N),(23,PR N),(24,Ee N),(25,Gx N),(26,SC N),(27,bH N),(28,MJ N),(29,PO N),(30,Qg N)] Xp) (L:=Ym) (fn:=Tryz.f4) (N:=N) (Af ⟨Yq N,sV N,Acu N,jI N,F8 N,VP N,Eo N,H7 N,UY N,tJ N,TQ N,VO N,Xq N,trivial⟩)
end
