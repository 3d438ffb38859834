import Derived.Test.YtbnphelpndnnfaaGreatDoorA15
set_option linter.all false
namespace Go.Proofs.YtbnphelpndnnfaaGreatDoor.Vm
noncomputable section
variable (N:Nat)
open Go.Proofs
def KD:Sig:=.of [Sq1,Sq1] [Du] (fun a=>EH N a.1 a.2)
theorem Ns:CX 68 (KD N):=Dc (CZ [(151,OW N)] []) ⟨[],[]⟩ Tryz.f68 N (ctx_ok ⟨UH N,trivial⟩)
def TM (N:Nat):Alt:=.of [.cell false .str,.cell false (.int .i64),.cell false (.int .i64)] [YU,.cell false (.int .i64)] [.cell false .ptr,.cell false (.int .i64)] (fun a=>SI N a.1 a.2.1 a.2.2)
theorem lQ:Spec Tryz.prog 51 (TM N).1/\Spec Tryz.prog 51 (TM N).2.1:=alt_of_exe (C:=ctx Tryz.prog [(126,Gu N)] [] [(125,Ky N)]) (L:=⟨[],[]⟩) (fn:=Tryz.f51) (N:=N) (ctx_ok ⟨GZ N,trivial⟩ ⟨Ws N,trivial⟩) (by kernel_rfl) (by kernel_rfl) (fun a=>by kernel_rfl)
def fE:List (Nat×Nrm):=[(3,⟨[],[],[],[],[]⟩),(18,⟨[11,12,13],[],[],[],[]⟩)]
def kK:Lk:=⟨[],[(18,⟨[(11,.i),(12,.i),(13,.c x64)],[]⟩,[(0,⟨[],[]⟩)])]⟩
def Gg:Sig:=.of [Sq1] [CY] (fun a=>EO N a)
theorem FD:CX 144 (Gg N):=Dc (CZ [(233,LC N)] fE) kK Tryz.f144 N (ctx_ok ⟨Q8 N,trivial⟩)
def nH:List (Nat×Nrm):=[(3,⟨[],[],[],[],[]⟩),(10,⟨[2,4,9,10,11],[],[],[],[]⟩)]
def qJ:Lk:=⟨[],[(10,⟨[(2,.i),(4,.c AP),(9,.i),(10,.i),(11,.c x64)],[(33792,.box [Bc])]⟩,[(0,⟨[],[]⟩)])]⟩
def Td:Sig:=.of [.cell false (.sl 106 Tq3),Sq1,CY] [CY] (fun a=>L8 N a.1 a.2.1 a.2.2)
theorem Ud:CX 149 (Td N):=Dc (CZ [(210,KX N)] nH) qJ Tryz.f149 N (ctx_ok ⟨Le N,trivial⟩)
def lD:List (Nat×Nrm):=[(3,⟨[0,2,9],[],[],[],[]⟩),(26,⟨[0,1,2,9,10],[([9],9,Aw,1000000)],[],[(40960,1000000)],[]⟩)]
def oN:Lk:=⟨[],[(26,⟨[(0,.i),(1,.i),(2,.i),(9,.c (xo 1000000)),(10,.c x64)],[(1000000,.arr 9 false Aw)]⟩,[(0,⟨[(0,.i),(2,.i),(9,.c (xo 1000000))],[(1000000,.arr 9 false Aw)]⟩)])]⟩
def X5:Sig:=.of [Df,Df,CY] [Df,CY] (fun a=>Qd N a.1 a.2.1 a.2.2)
theorem bW:CX 244 (X5 N):=Dc (CZ [(309,Nb N),(310,QM N),(241,Qe N),(242,QL N)] lD) oN Tryz.f244 N (ctx_ok ⟨OQ N,Su N,P6 N,Sr N,trivial⟩)
def qZ:List (Nat×Nrm):=[(3,⟨[13],[],[],[],[]⟩),(38,⟨[0,1,2,11,13,14],[([13],9,Aw,1000000)],[],[(45056,1000000)],[]⟩)]
def wE:Lk:=⟨[],[(38,⟨[(0,.i),(1,.i),(2,.i),(11,.i),(13,.c (xo 1000000)),(14,.c x64)],[(1000000,.arr 9 false Aw)]⟩,[(0,⟨[(13,.c (xo 1000000))],[(1000000,.arr 9 false Aw)]⟩)])]⟩
def bY:Sig:=.of [Df,Df,CY,Df] [Df,CY] (fun a=>Vw N a.1 a.2.1 a.2.2.1 a.2.2.2)
theorem lG:CX 222 (bY N):=Dc (CZ [(309,Nb N),(240,QJ N),(310,QM N),(241,Qe N),(311,Vy N)] qZ) wE Tryz.f222 N (ctx_ok ⟨OQ N,Sm N,Su N,P6 N,VS N,trivial⟩)
def ZO:Sig:=.of [Df,Df] [Df,CY] (fun a=>NL N a.1 a.2)
theorem kC:CX 56 (ZO N):=Dc (CZ [(32,Yv N)] []) ⟨[],[]⟩ Tryz.f56 N (ctx_ok ⟨dX N,trivial⟩)
def iH:List (Nat×Nrm):=[(3,⟨[0,1,13],[],[],[],[]⟩),(46,⟨[0,1,3,11,13,14],[([13],9,Aw,1000000)],[],[(46336,1000000)],[]⟩)]
def lF:Lk:=⟨[],[(46,⟨[(0,.i),(1,.i),(3,.i),(11,.i),(13,.c (xo 1000000)),(14,.c x64)],[(1000000,.arr 9 false Aw)]⟩,[(0,⟨[(0,.i),(1,.i),(13,.c (xo 1000000))],[(1000000,.arr 9 false Aw)]⟩)])]⟩
def VR:Sig:=.of [Df,CY,Df,Df] [Df,CY] (fun a=>Oy N a.1 a.2.1 a.2.2.1 a.2.2.2)
theorem Zy:CX 154 (VR N):=Dc (CZ [(239,Na N),(240,QJ N),(241,Qe N),(242,QL N)] iH) lF Tryz.f154 N (ctx_ok ⟨OO N,Sm N,P6 N,Sr N,trivial⟩)
def XD:List (Nat×Nrm):=[(3,⟨[6],[],[],[],[]⟩),(10,⟨[2,4,6,11,12,13],[],[],[],[]⟩)]
def Yq:Lk:=⟨[],[(10,⟨[(2,.i),(4,.c AP),(6,.c AU),(11,.i),(12,.i),(13,.c x64)],[(33792,.box [Bc]),(34304,.box [A7,A7,A7,A7,(xo 34309)]),(34309,.arr0 147 false Aq)]⟩,[(0,⟨[(6,.c AU)],[(34304,.box [A7,A7,A7,A7,(xo 34309)]),(34309,.arr0 147 false Aq)]⟩)])]⟩
def PU:Sig:=.of [Sq4,Sq1,CY] [Sq5,Du] (fun a=>Ju N a.1 a.2.1 a.2.2)
theorem V9:CX 50 (PU N):=Dc (CZ [(68,KD N)] XD) Yq Tryz.f50 N (ctx_ok ⟨Ns N,trivial⟩)
def Ny (N:Nat):Alt:=.of [.cell false .str,.cell false (.int .i64)] [YU,.cell false (.int .i64)] [.cell false .ptr,.cell false (.int .i64)] (fun a=>Gv N a.1 a.2)
theorem UL:Spec Tryz.prog 11 (Ny N).1/\Spec Tryz.prog 11 (Ny N).2.1:=alt_of_exe (C:=ctx Tryz.prog [] [] [(51,TM N)]) (L:=⟨[],[]⟩) (fn:=Tryz.f11) (N:=N) (ctx_ok trivial ⟨lQ N,trivial⟩) (by kernel_rfl) (by kernel_rfl) (fun a=>by kernel_rfl)
def IY:Sig:=.of [Sq3,Du] [CY] (fun a=>ER N a.1 a.2)
theorem IG:CX 234 (IY N):=Dc (CZ [(295,aV N),(144,Gg N),(325,OB N)] []) ⟨[],[]⟩ Tryz.f234 N (ctx_ok ⟨kP N,FD N,Um N,trivial⟩)
def Qu:Sig:=.of [Sq4,CY] [CY] (fun a=>JQ N a.1 a.2)
theorem We:CX 148 (Qu N):=Dc (CZ [(145,UX N),(236,WS N),(144,Gg N),(237,Ub N),(210,KX N),(149,Td N)] []) ⟨[],[]⟩ Tryz.f148 N (ctx_ok ⟨VI N,ZV N,FD N,XZ N,Le N,Ud N,trivial⟩)
def aJ:List (Nat×Nrm):=[(3,⟨[5],[([5],9,Aw,1012288)],[],[(1000000,1012288)],[]⟩),(11,⟨[5,8,21,22,23],[([8],9,Aw,1008192),([5],9,Aw,1008208)],[],[(1004096,1008192),(1004112,1008208)],[]⟩),(26,⟨[5,21,22,23],[([5],9,Aw,1000000)],[],[(47872,1000000)],[]⟩),(42,⟨[5,8,21,22,23,27,28,29],[([8],9,Aw,1004096),([5],9,Aw,1004112)],[],[(44032,1004096),(1000000,1004112)],[]⟩)]
def fG:Lk:=⟨[],[(26,⟨[(5,.c (xo 1000000)),(21,.i),(22,.i),(23,.c x64)],[(1000000,.arr 9 false Aw)]⟩,[(0,⟨[(5,.c (xo 1012288))],[(1012288,.arr 9 false Aw)]⟩)]),(42,⟨[(5,.c (xo 1004112)),(8,.c (xo 1004096)),(21,.i),(22,.i),(23,.i),(27,.i),(28,.i),(29,.c x64)],[(1004096,.arr 9 false Aw),(1004112,.arr 9 false Aw)]⟩,[(2,⟨[(5,.c (xo 1008208)),(8,.c (xo 1008192)),(21,.i),(22,.i),(23,.i)],[(1008192,.arr 9 false Aw),(1008208,.arr 9 false Aw)]⟩)])]⟩
def NT:Sig:=.of [Sq1] [Df,CY] (fun a=>Ip N a)
theorem PL:CX 113 (NT N):=Dc (CZ [(144,Gg N),(204,Kr N),(205,TP N),(192,Gy N)] aJ) fG Tryz.f113 N (ctx_ok ⟨FD N,Px N,jB N,F7 N,trivial⟩)
def Wv:List (Nat×Nrm):=[(3,⟨[0,2],[([2],9,Aw,1004096)],[],[(1000000,1004096)],[]⟩),(11,⟨[],[],[],[(44032,1020480),(1008192,1020480)],[]⟩),(14,⟨[0,2,3],[([2],9,Aw,1000000)],[],[(43264,1000000)],[]⟩),(19,⟨[0,6,7],[([7],9,Aw,1016384)],[],[(44032,1016400),(1012288,1016384),(1012304,1016400)],[]⟩),(38,⟨[0,2,6],[],[],[(44032,1008192),(56576,1008192),(1016384,1004096)],[]⟩),(54,⟨[0,2,6,7,8],[([7],9,Aw,1012288)],[],[(44032,1012304),(54016,1012288),(1008192,1012304)],[]⟩)]
def Xz:Lk:=⟨[],[(14,⟨[(0,.c AO),(2,.c (xo 1000000)),(3,.c x64)],[(0,.box Bv),(1000000,.arr 9 false Aw)]⟩,[(0,⟨[(0,.c AO),(2,.c (xo 1004096))],[(0,.box Bv),(1004096,.arr 9 false Aw)]⟩)]),(38,⟨[(0,.c AO),(2,.c (xo 1004096)),(6,.c x64)],[(0,.box [(xo 1008192),xs,xs,x64]),(1004096,.arr 9 true Aw),(1008192,.arr 52 false (.sl 9 Aw .nil))]⟩,[(2,⟨[],[(0,.box [(xo 1020480),xs,xs,x64]),(1020480,.arr 52 false (.sl 9 Aw .nil))]⟩)]),(54,⟨[(0,.c AO),(2,.c (xo 1004096)),(6,.i),(7,.c (xo 1012288)),(8,.c x64)],[(0,.box [(xo 1012304),xs,xs,x64]),(1004096,.arr 9 true Aw),(1012288,.arr 9 false Aw),(1012304,.arr 52 false (.sl 9 Aw .nil))]⟩,[(4,⟨[(0,.c AO),(6,.i),(7,.c (xo 1016384))],[(0,.box [(xo 1016400),xs,xs,x64]),(1016384,.arr 9 false Aw),(1016400,.arr 52 false (.sl 9 Aw .nil))]⟩)])]⟩
def OH:Sig:=.of [dU] [] (fun a=>D8 N a)
theorem Ux:CX 158 (OH N):=Dc (CZ [(244,X5 N),(156,MS N)] Wv) Xz Tryz.f158 N (ctx_ok ⟨bW N,OL N,trivial⟩)
def aI:List (Nat×Nrm):=[(3,⟨[2,4,8],[],[],[(34817,1004096),(1000000,1004096)],[]⟩),(50,⟨[2,4,8,37,38,39],[],[],[(34817,1000000),(47104,1000000)],[]⟩)]
def fF:Lk:=⟨[],[(50,⟨[(2,.c AB),(4,.c AP),(8,.c AX),(37,.i),(38,.i),(39,.c x64)],[(33280,.box BA),(33281,.arr0 147 false Aq),(33792,.box [(xo 33793)]),(33793,.arr0 147 false Aq),(34816,.box [(xo 1000000)]),(1000000,.arr 147 false Aq)]⟩,[(0,⟨[(2,.c AB),(4,.c AP),(8,.c AX)],[(33280,.box BA),(33281,.arr0 147 false Aq),(33792,.box [(xo 33793)]),(33793,.arr0 147 false Aq),(34816,.box [(xo 1004096)]),(1004096,.arr 147 false Aq)]⟩)])]⟩
def NS:Sig:=.of [Df] [Sq1,CY] (fun a=>Io N a)
theorem PK:CX 137 (NS N):=Dc (CZ [(189,LQ N),(224,Gx N),(226,KI N),(144,Gg N)] aI) fF Tryz.f137 N (ctx_ok ⟨JK N,F6 N,Qb N,FD N,trivial⟩)
def Zt:List (Nat×Nrm):=[(3,⟨[3,10],[],[],[],[]⟩),(58,⟨[3,10,12,13,14],[],[],[],[]⟩),(61,⟨[3,10,12,13,14],[],[],[],[]⟩)]
def bT:Lk:=⟨[(61,⟨[(3,.c AL),(10,.c xs),(12,.i),(13,.i),(14,.i)],[(33536,.box [x64,xs,xs])]⟩)],[(58,⟨[(3,.c AL),(10,.c xs),(12,.i),(13,.c x64),(14,.c x64)],[(33536,.box [x64,xs,xs])]⟩,[(0,⟨[(3,.c AL),(10,.c xs)],[(33536,.box [x64,xs,xs])]⟩)])]⟩
def Sj:Sig:=.of [Jf,Df,Df] [CY] (fun a=>Hl N a.1 a.2.1 a.2.2)
theorem X0:CX 69 (Sj N):=Dc (CZ [(152,Uu N),(153,VO N),(155,MR N),(154,VR N),(156,MS N)] Zt) bT Tryz.f69 N (ctx_ok ⟨Yl N,Zr N,OJ N,Zy N,OL N,trivial⟩)
def ZN:Sig:=.of [Sq4,Sq1,CY] [Sq5,Du] (fun a=>Qr N a.1 a.2.1 a.2.2)
theorem jZ:CX 64 (ZN N):=Dc (CZ [(149,Td N),(150,NP N)] []) ⟨[],[]⟩ Tryz.f64 N (ctx_ok ⟨Ud N,PE N,trivial⟩)
def Rt:List (Nat×Nrm):=[(3,⟨[],[],[],[],[]⟩),(18,⟨[2,3,121,122],[],[],[],[]⟩)]
def TL:Lk:=⟨[],[(18,⟨[(2,.c AB),(3,.c AL),(121,.i),(122,.c x64)],[(33280,.box Bl),(33536,.box Bl)]⟩,[(0,⟨[],[]⟩)])]⟩
def KQ:Sig:=.of [Sq4,Sq4] [Du] (fun a=>DD N a.1 a.2)
theorem Qg:CX 16 (KQ N):=Dc (CZ [(25,IQ N),(66,IP N),(67,OX N),(68,KD N)] Rt [] [] [] [14,20,21,27,28,34,35,41,42,48,49,55,56,65,66,74,75,83,84,92,93,101,102,109,110,118,140,146,147,153,154,160,161,168]) TL Tryz.f16 N (ctx_ok ⟨Jm N,Kt N,UJ N,Ns N,trivial⟩)
def o9:List (Nat×Nrm):=[(7,⟨[2,3],[],[],[(33652,1036864),(1020480,1036864)],[1036864]⟩),(17,⟨[0,2,3],[],[],[],[]⟩),(25,⟨[0,2,3],[],[],[],[]⟩),(33,⟨[0,2,3],[],[],[],[]⟩),(69,⟨[0,2,3],[],[(some 33536,9,Tq1)],[],[]⟩),(77,⟨[0,2,3],[],[(some 33536,14,Tq2)],[],[]⟩),(82,⟨[0,2,3,4],[],[],[(33652,1020480),(69632,1020480),(1032768,1020480)],[1020480]⟩),(101,⟨[0,2,3,4,5],[],[],[(33652,1024576),(1020480,1024576)],[1024576]⟩),(109,⟨[0,2,3,4,5],[],[],[(33652,1028672),(1024576,1028672)],[1028672]⟩),(117,⟨[0,2,3,4,5],[],[],[(33652,1032768),(1028672,1032768)],[1032768]⟩)]
def qW:Lk:=⟨[(17,⟨[(0,.c AO),(2,.c AB),(3,.c AL)],[(0,.box Bz),(33280,.box Bj),(33283,.arr0 147 false Aq),(33290,.arr0 102 false Tq1),(33295,.arr0 188 false Tq2),(33296,.arr0 106 false Tq3),(33536,.box [A8,A8,Bc,x64,x64,x64,(.c (.int .i64 (-1))),A8,AA,(xo 33646),AA,AA,A7,AA,(xo 33651),(xo 33652),A8]),(33646,.arr0 102 false Tq1),(33651,.arr0 188 false Tq2),(33652,.arr0 106 false Tq3)]⟩),(25,⟨[(0,.c AO),(2,.c AB),(3,.c AL)],[(0,.box Bz),(33280,.box Bj),(33283,.arr0 147 false Aq),(33290,.arr0 102 false Tq1),(33295,.arr0 188 false Tq2),(33296,.arr0 106 false Tq3),(33536,.box [A8,A8,Bc,x64,x64,x64,x64,A8,AA,(xo 33646),AA,AA,A7,AA,(xo 33651),(xo 33652),A8]),(33646,.arr0 102 false Tq1),(33651,.arr0 188 false Tq2),(33652,.arr0 106 false Tq3)]⟩),(33,⟨[(0,.c AO),(2,.c AB),(3,.c AL)],[(0,.box Bz),(33280,.box Bj),(33283,.arr0 147 false Aq),(33290,.arr0 102 false Tq1),(33295,.arr0 188 false Tq2),(33296,.arr0 106 false Tq3),(33536,.box [A8,A8,Bc,x64,x64,x64,x64,xs,AA,(xo 33646),AA,AA,A7,AA,(xo 33651),(xo 33652),A8]),(33646,.arr0 102 false Tq1),(33651,.arr0 188 false Tq2),(33652,.arr0 106 false Tq3)]⟩),(69,⟨[(0,.c AO),(2,.c AB),(3,.c AL)],[(0,.box Bz),(33280,.box Bj),(33283,.arr0 147 false Aq),(33290,.arr0 102 false Tq1),(33295,.arr0 188 false Tq2),(33296,.arr0 106 false Tq3),(33536,.box [A8,A8,Bc,x64,x64,x64,x64,xs,xb,Bd,xb,xb,x64,xb,(xo 33651),(xo 33652),A8]),(33651,.arr0 188 false Tq2),(33652,.arr0 106 false Tq3)]⟩),(77,⟨[(0,.c AO),(2,.c AB),(3,.c AL)],[(0,.box Bz),(33280,.box Bj),(33283,.arr0 147 false Aq),(33290,.arr0 102 false Tq1),(33295,.arr0 188 false Tq2),(33296,.arr0 106 false Tq3),(33536,.box [A8,A8,Bc,x64,x64,x64,x64,xs,xb,Bd,xb,xb,x64,xb,Be,(xo 33652),A8]),(33652,.arr0 106 false Tq3)]⟩),(101,⟨[(0,.c AO),(2,.c AB),(3,.c AL),(4,.i),(5,.c AQ)],[(0,.box Bz),(33280,.box Bj),(33283,.arr0 147 false Aq),(33290,.arr0 102 false Tq1),(33295,.arr0 188 false Tq2),(33296,.arr0 106 false Tq3),(33536,.box [A8,A8,Bc,x64,x64,x64,x64,xs,xb,Bd,xb,xb,x64,xb,Be,(xo 1024576),A8]),(34048,.box Bq),(1024576,.arr 106 true Tq3)]⟩),(109,⟨[(0,.c AO),(2,.c AB),(3,.c AL),(4,.i),(5,.c AQ)],[(0,.box Bz),(33280,.box Bj),(33283,.arr0 147 false Aq),(33290,.arr0 102 false Tq1),(33295,.arr0 188 false Tq2),(33296,.arr0 106 false Tq3),(33536,.box [A8,A8,Bc,x64,x64,x64,x64,xs,xb,Bd,xb,xb,x64,xb,Be,(xo 1028672),A8]),(34048,.box Bq),(1028672,.arr 106 true Tq3)]⟩),(117,⟨[(0,.c AO),(2,.c AB),(3,.c AL),(4,.i),(5,.c AQ)],[(0,.box Bz),(33280,.box Bj),(33283,.arr0 147 false Aq),(33290,.arr0 102 false Tq1),(33295,.arr0 188 false Tq2),(33296,.arr0 106 false Tq3),(33536,.box [A8,A8,Bc,x64,x64,x64,x64,xs,xb,Bd,xb,xb,x64,xb,Be,(xo 1032768),A8]),(34048,.box Bq),(1032768,.arr 106 true Tq3)]⟩)],[(82,⟨[(0,.c AO),(2,.c AB),(3,.c AL),(4,.c x64)],[(0,.box Bz),(33280,.box Bj),(33283,.arr0 147 false Aq),(33290,.arr0 102 false Tq1),(33295,.arr0 188 false Tq2),(33296,.arr0 106 false Tq3),(33536,.box [A8,A8,Bc,x64,x64,x64,x64,xs,xb,Bd,xb,xb,x64,xb,Be,(xo 1020480),A8]),(1020480,.arr 106 true Tq3)]⟩,[(1,⟨[(2,.c AB),(3,.c AL)],[(0,.box Bz),(33280,.box Bj),(33283,.arr0 147 false Aq),(33290,.arr0 102 false Tq1),(33295,.arr0 188 false Tq2),(33296,.arr0 106 false Tq3),(33536,.box [A8,A8,Bc,x64,x64,x64,x64,xs,xb,Bd,xb,xb,x64,xb,Be,(xo 1036864),A8]),(1036864,.arr 106 true Tq3)]⟩)])]⟩
def Y6:Sig:=.of [Sq0] [Sq4] (fun a=>OE N a)
theorem gK:CX 9 (Y6 N):=Dc (CZ [(39,EY N),(46,II N),(47,Y8 N),(48,NY N),(49,VN N),(50,PU N)] o9) qW Tryz.f9 N (ctx_ok ⟨EJ N,Jk N,gU N,PO N,Zp N,V9 N,trivial⟩)
def XW:List (Nat×Nrm):=[(7,⟨[],[],[],[],[]⟩),(21,⟨[3,34],[],[],[],[]⟩),(46,⟨[66,67,68],[],[],[],[]⟩)]
def YY:Lk:=⟨[(21,⟨[(3,.c AL),(34,.c xb)],[(33536,.box [Bd,xb,xb,x64,xb])]⟩)],[(46,⟨[(66,.i),(67,.i),(68,.c x64)],[]⟩,[(1,⟨[],[]⟩)])]⟩
def Qv:Sig:=.of [Sq4] [CY] (fun a=>Ik N a)
theorem Wh:CX 146 (Qv N):=Dc (CZ [(234,IY N)] XW [] [] [] [14,18,19,23,24,28,29,33,44,46,49,52,53,54]) YY Tryz.f146 N (ctx_ok ⟨IG N,trivial⟩)
def TT:List (Nat×Nrm):=[(3,⟨[],[],[],[],[]⟩),(10,⟨[6,7,8],[],[],[],[]⟩)]
def UQ:Lk:=⟨[],[(10,⟨[(6,.i),(7,.i),(8,.c x64)],[]⟩,[(0,⟨[],[]⟩)])]⟩
def LZ:Sig:=.of [.cell false (.sl 102 Tq1)] [CY] (fun a=>Hq N a)
theorem Rj:CX 252 (LZ N):=Dc (CZ [(234,IY N)] TT) UQ Tryz.f252 N (ctx_ok ⟨IG N,trivial⟩)
def JU:Sig:=.of [Sq3,Du] [Df,CY] (fun a=>Fj N a.1 a.2)
theorem Kw:CX 217 (JU N):=Dc (CZ [(234,IY N),(192,Gy N),(113,NT N)] []) ⟨[],[]⟩ Tryz.f217 N (ctx_ok ⟨IG N,F7 N,PL N,trivial⟩)
def Kz:Sig:=.of [dU] [Jf] (fun a=>Fp N a)
theorem MQ:CX 71 (Kz N):=Dc (CZ [(157,GX N),(158,OH N),(159,NF N)] []) ⟨[],[]⟩ Tryz.f71 N (ctx_ok ⟨Ig N,Ux N,TB N,trivial⟩)
def aU:List (Nat×Nrm):=[(29,⟨[1,2,4,6,11,13],[],[],[],[]⟩),(53,⟨[1,4,6],[],[(some 34304,2,Aq)],[],[]⟩)]
def fU:Lk:=⟨[(29,⟨[(1,.i),(2,.c AB),(4,.c AP),(6,.c AU),(11,.i),(13,.c xb)],[(33280,.box [x64,xs,xs]),(33792,.box [A7,A8,(xo 33795)]),(33795,.arr0 147 false Aq),(34304,.box [A7,A8,(xo 34307)]),(34307,.arr0 147 false Aq)]⟩),(53,⟨[(1,.i),(4,.c AP),(6,.c AU)],[(33792,.box [A7,A8,(xo 33795)]),(33795,.arr0 147 false Aq),(34304,.box [x64,xs,Bc])]⟩)],[]⟩
def Ul:Sig:=.of [Jf,Du] [Sq3,CY] (fun a=>GH N a.1 a.2)
theorem Yg:CX 462 (Ul N):=Dc (CZ [(137,NS N),(234,IY N)] aU) fU Tryz.f462 N (ctx_ok ⟨PK N,IG N,trivial⟩)
def Qs:Sig:=.of [Sq4,Jf] [CY] (fun a=>Gs N a.1 a.2)
theorem RD:CX 17 (Qs N):=Dc (CZ [(69,Sj N)] []) ⟨[],[]⟩ Tryz.f17 N (ctx_ok ⟨X0 N,trivial⟩)
def TU:List (Nat×Nrm):=[(13,⟨[1,4],[],[],[],[]⟩)]
def UR:Lk:=⟨[(13,⟨[(1,.c AV),(4,.c xb)],[(33024,.box [Bd,x64,xb,Bc])]⟩)],[]⟩
def Mc:Sig:=.of [Ace] [CY] (fun a=>Hr N a)
theorem Rk:CX 235 (Mc N):=Dc (CZ [(252,LZ N),(144,Gg N)] TU) UR Tryz.f235 N (ctx_ok ⟨Rj N,FD N,trivial⟩)
def ZT:List (Nat×Nrm):=[(17,⟨[0,4,5,7],[([7],238,Tq4,1000000)],[],[(38400,1000000)],[]⟩),(25,⟨[0,4,5,7],[],[],[(41984,1004096),(1000000,1004096)],[]⟩),(37,⟨[0,4,7],[],[],[(47360,1008192),(1004096,1008192)],[]⟩),(49,⟨[0,4,9],[],[],[],[]⟩)]
def eH:Lk:=⟨[(17,⟨[(0,.c AO),(4,.c AP),(5,.c AQ),(7,.c (xo 1000000))],[(0,.box [xb]),(33792,.box Bq),(34048,.box [Bc]),(1000000,.arr 238 false Tq4)]⟩),(25,⟨[(0,.c AO),(4,.c AP),(5,.c AQ),(7,.c (xo 1004096))],[(0,.box [xb]),(33792,.box Bq),(34048,.box [Bc]),(1004096,.arr 238 false Tq4)]⟩),(37,⟨[(0,.c AO),(4,.c AP),(7,.c (xo 1008192))],[(0,.box [xb]),(33792,.box Bq),(1008192,.arr 238 false Tq4)]⟩),(49,⟨[(0,.c AO),(4,.c AP),(9,.c xs)],[(0,.box [xb]),(33792,.box Bq)]⟩)],[]⟩
def Ue:Sig:=.of [.box [(false,.bool)],Sq5,Sq1] [Df] (fun a=>MF N a.1 a.2.1 a.2.2)
theorem Ya:CX 128 (Ue N):=Dc (CZ [(203,KC N),(103,DJ N),(114,Ph N),(104,Es N),(210,KX N),(217,JU N),(101,EU N),(129,QB N),(112,IE N)] ZT) eH Tryz.f128 N (ctx_ok ⟨Np N,D9 N,Qz N,Ef N,Le N,Kw N,EI N,RQ N,Ji N,trivial⟩)
def Wl:List (Nat×Nrm):=[(3,⟨[5],[],[],[],[]⟩),(26,⟨[5,16,17,18],[],[],[],[]⟩)]
def Xi:Lk:=⟨[],[(26,⟨[(5,.c xs),(16,.i),(17,.i),(18,.c x64)],[]⟩,[(0,⟨[(5,.c xs)],[]⟩)])]⟩
def JA:Sig:=.of [.cell false (.sl 102 Tq1)] [Df,CY] (fun a=>EW N a)
theorem LH:CX 306 (JA N):=Dc (CZ [(406,Py N),(217,JU N)] Wl) Xi Tryz.f306 N (ctx_ok ⟨QC N,Kw N,trivial⟩)
def Wu:List (Nat×Nrm):=[(3,⟨[10],[],[],[],[]⟩),(42,⟨[0,10,11,12],[],[],[],[]⟩)]
def Xy:Lk:=⟨[],[(42,⟨[(0,.c AO),(10,.c xs),(11,.c x64),(12,.c x64)],[(0,.box Bv)]⟩,[(0,⟨[(10,.c xs)],[(0,.box Bv)]⟩)])]⟩
def OG:Sig:=.of [dU,CY,Df] [Df,CY] (fun a=>FI N a.1 a.2.1 a.2.2)
theorem Uw:CX 133 (OG N):=Dc (CZ [(157,GX N),(126,Gu N),(71,Kz N),(155,MR N),(222,bY N),(223,Ox N)] Wu [] [] [] [] [] [(71,[(0,1),(0,2),(0,3)])]) Xy Tryz.f133 N (ctx_ok ⟨Ig N,GZ N,MQ N,OJ N,lG N,Oa N,trivial⟩)
def Wj:List (Nat×Nrm):=[(3,⟨[7],[([7],102,Tq1,1004096)],[],[(1000000,1004096)],[]⟩),(38,⟨[7,26,27,28],[([7],102,Tq1,1000000)],[],[(43776,1000000)],[]⟩)]
def Xh:Lk:=⟨[],[(38,⟨[(7,.c (xo 1000000)),(26,.i),(27,.i),(28,.c x64)],[(1000000,.arr 102 false Tq1)]⟩,[(0,⟨[(7,.c (xo 1004096))],[(1004096,.arr 102 false Tq1)]⟩)])]⟩
def Hw:Sig:=.of [Df] [.cell false (.sl 102 Tq1),CY] (fun a=>DT N a)
theorem Iq:CX 409 (Hw N):=Dc (CZ [(224,Gx N),(406,Py N),(462,Ul N)] Wj) Xh Tryz.f409 N (ctx_ok ⟨F6 N,QC N,Yg N,trivial⟩)
def Jn:Sig:=.of [YU] [Jf] (fun a=>DV N a)
theorem KR:CX 18 (Jn N):=Dc (CZ [(70,Gw N),(71,Kz N)] [] [] [] [] [] [] [(71,[(0,1),(0,2),(0,3)])]) ⟨[],[]⟩ Tryz.f18 N (ctx_ok ⟨Ha N,MQ N,trivial⟩)
def SL:List (Nat×Nrm):=[(3,⟨[],[],[],[],[]⟩),(18,⟨[9,10,11],[],[],[],[]⟩)]
def TS:Lk:=⟨[],[(18,⟨[(9,.i),(10,.i),(11,.c x64)],[]⟩,[(0,⟨[],[]⟩)])]⟩
def FV:Sig:=.of [.cell false (.sl 188 Tq2)] [CY] (fun a=>DU N a)
theorem GG:CX 147 (FV N):=Dc (CZ [(235,Mc N)] SL) TS Tryz.f147 N (ctx_ok ⟨Rk N,trivial⟩)
def ZU:List (Nat×Nrm):=[(17,⟨[0,3,5,6],[],[],[],[]⟩),(25,⟨[0,3,5,6],[],[],[],[]⟩)]
def eP:Lk:=⟨[(17,⟨[(0,.c AO),(3,.c AL),(5,.c xs),(6,.i)],[(0,.box [xb]),(33536,.box [Bd,xb,xb,x64,xb])]⟩),(25,⟨[(0,.c AO),(3,.c AL),(5,.i),(6,.c xs)],[(0,.box [xb]),(33536,.box [Bd,xb,xb,x64,xb])]⟩)],[]⟩
def Uf:Sig:=.of [.box [(false,.bool)],Ach] [Df] (fun a=>J7 N a.1 a.2)
theorem Yb:CX 220 (Uf N):=Dc (CZ [(306,JA N),(104,Es N),(103,DJ N),(307,Nl N),(308,PI N),(101,EU N)] ZU) eP Tryz.f220 N (ctx_ok ⟨LH N,Ef N,D9 N,OU N,Vb N,EI N,trivial⟩)
def N7:Sig:=.of [YU,Df] [Df,CY] (fun a=>Ec N a.1 a.2)
theorem Rw:CX 55 (N7 N):=Dc (CZ [(70,Gw N),(132,Nz N),(133,OG N)] []) ⟨[],[]⟩ Tryz.f55 N (ctx_ok ⟨Ha N,Ru N,Uw N,trivial⟩)
def RG:Sig:=.of [Df] [Sq1,CY] (fun a=>IW N a)
theorem WR:CX 408 (RG N):=Dc (CZ [(98,Fv N),(409,Hw N)] []) ⟨[],[]⟩ Tryz.f408 N (ctx_ok ⟨Il N,Iq N,trivial⟩)
def ZR:List (Nat×Nrm):=[(53,⟨[2,4,5,6],[],[(some 34048,0,Tq1)],[],[]⟩),(105,⟨[2,4,5,6],[],[],[],[]⟩)]
def eG:Lk:=⟨[(53,⟨[(2,.c AB),(4,.c AP),(5,.c AQ),(6,.c (.c (.ptr 36864 0)))],[(33280,.box [(xo 33281),AA,AA,A7,AA]),(33281,.arr0 102 false Tq1),(33792,.box [(xo 33793),AA,AA,A7,AA]),(33793,.arr0 102 false Tq1),(34048,.box [Bd,AA,AA,A7,AA]),(36864,.box [Bh])]⟩),(105,⟨[(2,.c AB),(4,.c AP),(5,.c AQ),(6,.c (.c (.ptr 36864 0)))],[(33280,.box [(xo 33281),AA,AA,A7,AA]),(33281,.arr0 102 false Tq1),(33792,.box [(xo 33793),AA,AA,A7,AA]),(33793,.arr0 102 false Tq1),(34048,.box [Bd,xb,xb,x64,AA]),(36864,.box [Bh])]⟩)],[]⟩
def Ua:Sig:=.of [Df] [Ach,CY] (fun a=>J6 N a)
theorem XY:CX 320 (Ua N):=Dc (CZ [(139,FC N),(98,Fv N),(409,Hw N),(410,PH N),(411,QO N),(62,EC N)] ZR [(57,JS N)]) eG Tryz.f320 N (ctx_ok ⟨F8 N,Il N,Iq N,Va N,Sv N,Ez N,trivial⟩ ⟨MH N,trivial⟩)
def SS:List (Nat×Nrm):=[(45,⟨[0,2,4,5],[],[(some 34048,0,Tq1)],[],[]⟩),(73,⟨[0,2,4,5],[],[],[],[]⟩),(105,⟨[0,2,4,5],[],[(some 34048,3,Aq)],[],[]⟩)]
def TV:Lk:=⟨[(45,⟨[(0,.c AO),(2,.c AB),(4,.c AP),(5,.c AQ)],[(0,.box [Bh]),(33280,.box BB),(33281,.arr0 102 false Tq1),(33284,.arr0 147 false Aq),(33792,.box BC),(33793,.arr0 102 false Tq1),(33796,.arr0 147 false Aq),(34048,.box [Bd,A7,AA,(xo 34052)]),(34052,.arr0 147 false Aq)]⟩),(73,⟨[(0,.c AO),(2,.c AB),(4,.c AP),(5,.c AQ)],[(0,.box [Bh]),(33280,.box BB),(33281,.arr0 102 false Tq1),(33284,.arr0 147 false Aq),(33792,.box BC),(33793,.arr0 102 false Tq1),(33796,.arr0 147 false Aq),(34048,.box [Bd,x64,AA,(xo 34052)]),(34052,.arr0 147 false Aq)]⟩),(105,⟨[(0,.c AO),(2,.c AB),(4,.c AP),(5,.c AQ)],[(0,.box [Bh]),(33280,.box BB),(33281,.arr0 102 false Tq1),(33284,.arr0 147 false Aq),(33792,.box BC),(33793,.arr0 102 false Tq1),(33796,.arr0 147 false Aq),(34048,.box [Bd,x64,xb,Bc])]⟩)],[]⟩
def L6:Sig:=.of [Ku] [Ace,CY] (fun a=>GN N a)
theorem Qo:CX 412 (L6 N):=Dc (CZ [(139,FC N),(98,Fv N),(409,Hw N),(411,QO N),(62,EC N)] SS) TV Tryz.f412 N (ctx_ok ⟨F8 N,Il N,Iq N,Sv N,Ez N,trivial⟩)
def nG:List (Nat×Nrm):=[(3,⟨[],[],[],[],[]⟩),(94,⟨[1,88,89],[],[],[],[]⟩)]
def qI:Lk:=⟨[],[(94,⟨[(1,.c AV),(88,.i),(89,.c x64)],[(33024,.box Bl)]⟩,[(0,⟨[],[]⟩)])]⟩
def SV:Sig:=.of [Sq4] [CY] (fun a=>I4 N a)
theorem TW:CX 63 (SV N):=Dc (CZ [(144,Gg N),(145,UX N),(146,Qv N),(147,FV N),(148,Qu N)] nG [] [] [] [40,45,46,50,56,57]) qI Tryz.f63 N (ctx_ok ⟨FD N,VI N,Wh N,GG N,We N,trivial⟩)
def Ri:List (Nat×Nrm):=[(3,⟨[5,6],[([6],9,Aw,1016384)],[],[(1000000,1016384)],[]⟩),(38,⟨[5,6,22,23,24],[([6],9,Aw,1000000)],[],[(54272,1000000)],[]⟩),(57,⟨[5,6,8,9,22,23,24],[([6],9,Aw,1004096)],[],[(1000000,1004096)],[]⟩),(65,⟨[5,6,8,9,22,23,24],[([6],9,Aw,1008192)],[],[(1004096,1008192)],[]⟩),(77,⟨[5,6,9,22,23,24],[([6],9,Aw,1012288)],[],[(1008192,1012288)],[]⟩)]
def SQ:Lk:=⟨[(57,⟨[(5,.c AY),(6,.c (xo 1004096)),(8,.c AX),(9,.c (xo 39936)),(22,.i),(23,.i),(24,.i)],[(34816,.box [Bd,x64,xb,Bc]),(38144,.box [xb]),(39936,.arr 9 false Aw),(1004096,.arr 9 false Aw)]⟩),(65,⟨[(5,.c AY),(6,.c (xo 1008192)),(8,.c AX),(9,.c (xo 39936)),(22,.i),(23,.i),(24,.i)],[(34816,.box [Bd,x64,xb,Bc]),(38144,.box [xb]),(39936,.arr 9 false Aw),(1008192,.arr 9 false Aw)]⟩),(77,⟨[(5,.c AY),(6,.c (xo 1012288)),(9,.c (xo 39936)),(22,.i),(23,.i),(24,.i)],[(38144,.box [xb]),(39936,.arr 9 false Aw),(1012288,.arr 9 false Aw)]⟩)],[(38,⟨[(5,.c AY),(6,.c (xo 1000000)),(22,.i),(23,.i),(24,.c x64)],[(38144,.box [xb]),(1000000,.arr 9 false Aw)]⟩,[(0,⟨[(5,.c AY),(6,.c (xo 1016384))],[(38144,.box [xb]),(1016384,.arr 9 false Aw)]⟩)])]⟩
def KF:Sig:=.of [.cell false (.sl 188 Tq2)] [Df,CY] (fun a=>Fg N a)
theorem PZ:CX 221 (KF N):=Dc (CZ [(147,FV N),(306,JA N),(104,Es N),(103,DJ N),(307,Nl N),(217,JU N),(101,EU N),(131,Ld N)] Ri) SQ Tryz.f221 N (ctx_ok ⟨GG N,LH N,Ef N,D9 N,OU N,Kw N,EI N,Jh N,trivial⟩)
def RJ:Sig:=.of [Adz,uF] [CY] (fun a=>Hf N a.1 a.2)
theorem WU:CX 317 (RJ N):=Dc (CZ [(319,Pe N),(407,VH N),(408,RG N)] []) ⟨[],[]⟩ Tryz.f317 N (ctx_ok ⟨Qw N,Za N,WR N,trivial⟩)
def Rh:List (Nat×Nrm):=[(3,⟨[6],[([6],188,Tq2,1004096)],[],[(1000000,1004096)],[]⟩),(30,⟨[4,6],[([6],188,Tq2,1000000)],[],[(44032,1000000)],[]⟩)]
def SN:Lk:=⟨[],[(30,⟨[(4,.c (.c (.ptr 36096 0))),(6,.c (xo 1000000))],[(36096,.box [Bh]),(1000000,.arr 188 false Tq2)]⟩,[(0,⟨[(6,.c (xo 1004096))],[(1004096,.arr 188 false Tq2)]⟩)])]⟩
def KE:Sig:=.of [Df] [.cell false (.sl 188 Tq2),CY] (fun a=>Ff N a)
theorem PY:CX 321 (KE N):=Dc (CZ [(228,Kv N),(412,L6 N),(147,FV N)] Rh [(57,JS N),(229,GR N)]) SN Tryz.f321 N (ctx_ok ⟨MI N,Qo N,GG N,trivial⟩ ⟨MH N,L9 N,trivial⟩)
def Uc:List (Nat×Nrm):=[(17,⟨[0,3,5],[([5],238,Tq4,1000000)],[],[(37888,1000000)],[]⟩),(29,⟨[0,3,5],[],[],[(39936,1004096),(42752,1004096)],[]⟩),(37,⟨[0,3,5],[],[],[(45312,1008192),(1004096,1008192)],[]⟩)]
def UW:Lk:=⟨[(17,⟨[(0,.c AO),(3,.c AL),(5,.c (xo 1000000))],[(0,.box [xb]),(33536,.box Bl),(1000000,.arr 238 false Tq4)]⟩),(29,⟨[(0,.c AO),(3,.c AL),(5,.c (xo 1004096))],[(0,.box [xb]),(33536,.box Bl),(1004096,.arr 238 false Tq4)]⟩),(37,⟨[(0,.c AO),(3,.c AL),(5,.c (xo 1008192))],[(0,.box [xb]),(33536,.box Bl),(1008192,.arr 238 false Tq4)]⟩)],[]⟩
def MC:Sig:=.of [.box [(false,.bool)],Sq4] [.cell false (.sl 238 Tq4)] (fun a=>FO N a.1 a.2)
theorem Rn:CX 130 (MC N):=Dc (CZ [(103,DJ N),(101,EU N),(112,IE N),(220,Uf N),(221,KF N),(104,Es N)] Uc) UW Tryz.f130 N (ctx_ok ⟨D9 N,EI N,Ji N,Yb N,PZ N,Ef N,trivial⟩)
def WO:List (Nat×Nrm):=[(3,⟨[0,4,6,7],[],[],[],[]⟩),(66,⟨[0,4,6,7,57,58,59],[],[],[],[]⟩),(89,⟨[0,4,6,7],[],[],[],[]⟩)]
def XX:Lk:=⟨[(89,⟨[(0,.c AO),(4,.c AP),(6,.c AU),(7,.c AZ)],[(0,.box [Bh]),(33792,.box BG),(33797,.arr0 147 false Aq),(34304,.box BH),(34409,.arr0 147 false Aq),(34560,.box Bq)]⟩)],[(66,⟨[(0,.c AO),(4,.c AP),(6,.c AU),(7,.c AZ),(57,.i),(58,.i),(59,.c x64)],[(0,.box [Bh]),(33792,.box BG),(33797,.arr0 147 false Aq),(34304,.box BH),(34409,.arr0 147 false Aq),(34560,.box Bq)]⟩,[(0,⟨[(0,.c AO),(4,.c AP),(6,.c AU),(7,.c AZ)],[(0,.box [Bh]),(33792,.box BG),(33797,.arr0 147 false Aq),(34304,.box BH),(34409,.arr0 147 false Aq),(34560,.box Bq)]⟩)])]⟩
def PG:Sig:=.of [Ku,Sq1] [Sq5,CY] (fun a=>Jp N a.1 a.2)
theorem UU:CX 230 (PG N):=Dc (CZ [(150,NP N),(136,Qx N),(138,UY N),(139,FC N),(200,QA N),(317,RJ N),(62,EC N)] WO) XX Tryz.f230 N (ctx_ok ⟨PE N,RH N,VJ N,F8 N,RP N,WU N,Ez N,trivial⟩)
def Ug:Sig:=.of [zZ,uF] [CY] (fun a=>FP N a.1 a.2)
theorem Yc:CX 231 (Ug N):=Dc (CZ [(318,OA N),(319,Pe N),(320,Ua N),(321,KE N)] []) ⟨[],[]⟩ Tryz.f231 N (ctx_ok ⟨TZ N,Qw N,XY N,PY N,trivial⟩)
def uT:List (Nat×Nrm):=[(3,⟨[1,5,7],[([7],9,Aw,1008192)],[],[(1004096,1008192)],[]⟩),(42,⟨[1,5,7,8,26,27,28],[([7],9,Aw,1004096)],[],[(42496,1004096)],[]⟩),(65,⟨[1,5,6],[],[],[],[]⟩)]
def xU:Lk:=⟨[(65,⟨[(1,.c AV),(5,.c (.c (.ptr 37376 0))),(6,.c xs)],[(33024,.box Bl),(37376,.box [xb])]⟩)],[(42,⟨[(1,.c AV),(5,.c (.c (.ptr 37376 0))),(7,.c (xo 1004096)),(8,.c AX),(26,.i),(27,.i),(28,.c x64)],[(33024,.box Bl),(34816,.box [Bc]),(37376,.box [xb]),(1004096,.arr 9 false Aw)]⟩,[(0,⟨[(1,.c AV),(5,.c (.c (.ptr 37376 0))),(7,.c (xo 1008192))],[(33024,.box Bl),(37376,.box [xb]),(1008192,.arr 9 false Aw)]⟩)])]⟩
def WM:Sig:=.of [Sq4] [Df,CY] (fun a=>NM N a)
theorem WN:CX 54 (WM N):=Dc (CZ [(63,SV N),(128,Ue N),(101,EU N),(112,IE N),(102,Jj N),(113,NT N),(104,Es N),(114,Ph N),(130,MC N),(129,QB N),(103,DJ N),(131,Ld N)] uT) xU Tryz.f54 N (ctx_ok ⟨TW N,Ya N,EI N,Ji N,KN N,PL N,Ef N,Qz N,Rn N,RQ N,D9 N,Jh N,trivial⟩)
def UT:List (Nat×Nrm):=[(3,⟨[8],[([8],106,Tq3,1004096)],[],[(1000000,1004096)],[]⟩),(30,⟨[3,6,8],[([8],106,Tq3,1000000)],[],[(44544,1000000)],[]⟩)]
def Wi:Lk:=⟨[],[(30,⟨[(3,.c AL),(6,.c (.c (.ptr 36352 0))),(8,.c (xo 1000000))],[(33536,.box [Bc]),(36352,.box [Bh]),(1000000,.arr 106 false Tq3)]⟩,[(0,⟨[(8,.c (xo 1004096))],[(1004096,.arr 106 false Tq3)]⟩)])]⟩
def NC:Sig:=.of [Df,Sq1] [.cell false (.sl 106 Tq3),CY] (fun a=>Ii N a.1 a.2)
theorem SY:CX 140 (NC N):=Dc (CZ [(228,Kv N),(230,PG N)] UT [(134,G7 N),(229,GR N)]) Wi Tryz.f140 N (ctx_ok ⟨MI N,UU N,trivial⟩ ⟨IA N,L9 N,trivial⟩)
def Rl:List (Nat×Nrm):=[(3,⟨[7],[],[],[],[]⟩),(26,⟨[0,7,21,22,23],[],[],[],[]⟩)]
def Tc:Lk:=⟨[],[(26,⟨[(0,.c AO),(7,.c (xo 37632)),(21,.i),(22,.i),(23,.c x64)],[(0,.box Bl),(37632,.mp Aw (.bool .nil))]⟩,[(0,⟨[(7,.c (xo 37632))],[(0,.box Bl),(37632,.mp Aw (.bool .nil))]⟩)])]⟩
def KG:Sig:=.of [zZ,Df] [CY] (fun a=>Gt N a.1 a.2)
theorem Qa:CX 141 (KG N):=Dc (CZ [(200,QA N),(231,Ug N)] Rl) Tc Tryz.f141 N (ctx_ok ⟨RP N,Yc N,trivial⟩)
def SX:Sig:=.of [Sq4,YU] [Df,CY] (fun a=>Ht N a.1 a.2)
theorem TY:CX 13 (SX N):=Dc (CZ [(54,WM N),(55,N7 N),(56,ZO N)] []) ⟨[],[]⟩ Tryz.f13 N (ctx_ok ⟨WN N,Rw N,kC N,trivial⟩)
def YZ:List (Nat×Nrm):=[(117,⟨[0,5,9],[],[],[],[]⟩)]
def ZQ:Lk:=⟨[(117,⟨[(0,.c AO),(5,.c (.c (.ptr 36608 0))),(9,.c (.c (.ptr 35072 0)))],[(0,.box Bl),(35072,.box [x64,xs,xs]),(36608,.box [Bh])]⟩)],[]⟩
def RF:Sig:=.of [zZ,Df] [CY] (fun a=>KU N a.1 a.2)
theorem WQ:CX 59 (RF N):=Dc (CZ [(136,Qx N),(60,Me N),(58,ED N),(137,NS N),(138,UY N),(139,FC N),(140,NC N),(141,KG N),(62,EC N)] YZ [(134,G7 N)]) ZQ Tryz.f59 N (ctx_ok ⟨RH N,O9 N,E5 N,PK N,VJ N,F8 N,SY N,Qa N,Ez N,trivial⟩ ⟨IA N,trivial⟩)
def Qq:Sig:=.of [Df] [Sq4,CY] (fun a=>Gq N a)
theorem Rz:CX 14 (Qq N):=Dc (CZ [(58,ED N),(59,RF N),(60,Me N),(61,RI N),(62,EC N),(63,SV N),(54,WM N)] [] [(57,JS N)]) ⟨[],[]⟩ Tryz.f14 N (ctx_ok ⟨E5 N,WQ N,O9 N,WT N,Ez N,TW N,WN N,trivial⟩ ⟨MH N,trivial⟩)
def VM:Sig:=.of [] [Du] (fun _=>FN N)
theorem Zl:CX 15 (VM N):=Dc (CZ [(12,TA N),(46,II N),(13,SX N),(14,Qq N),(64,ZN N),(18,Jn N),(17,Qs N),(65,WJ N)] [] [(11,Ny N)] [] [] [45,48,49,55,56,58,59,63,64,67] [(8,7,49,[50,51,52,53,54])]) ⟨[],[]⟩ Tryz.f15 N (ctx_ok ⟨Us N,Jk N,TY N,Rz N,jZ N,KR N,RD N,WL N,trivial⟩ ⟨UL N,trivial⟩)
def bJ:Sig:=.of [.cell false (.int .u8),Sq6] [Du] (fun a=>Gi N a.1 a.2)
theorem Xw:CX 3 (bJ N):=Dc (CZ [(10,bQ N),(9,Y6 N),(12,TA N),(13,SX N),(14,Qq N),(15,VM N),(16,KQ N),(18,Jn N),(17,Qs N)] [] [(11,Ny N)] [] [] [40,43,44,47,48,52,53,58,59,65] [(7,21,59,[60,61,62,63,64])]) ⟨[],[]⟩ Tryz.f3 N (ctx_ok ⟨kV N,gK N,Us N,TY N,Rz N,Zl N,Qg N,KR N,RD N,trivial⟩ ⟨UL N,trivial⟩)
end
