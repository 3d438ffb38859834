import Derived.Test.YtbgjmioccbacdaaGreatDoorA16
set_option linter.all false
namespace Go.Proofs.YtbgjmioccbacdaaGreatDoor.Vm
noncomputable section
variable (N:Nat)
open Go.Proofs Go.Proofs.Tryz
def Al7:=J9 19 [Sq0] [Sq5] (o8 N) [Me N,Y3 N] f19 N
def kV:=J9 51 [Sq0] [Sq8] (TA N) [Me N,iD N] f51 N
def AiZ:=J9 96 [Sq0] [Sq8] (WM N) [Me N,iD N] f96 N
def AiO:AvM:=[AvK 3 [3],AvK 14 [3,7,8,9]]
def Ale:Lk:=⟨[],[(14,⟨[(3,.c AV),(7,.i),(8,.i),(9,.c x64)],[(Avt,.box Bz)]⟩,[(0,⟨[(3,.c AV)],[(Avt,.box Bz)]⟩)])]⟩
def Alf:=JP 142 [Sq4] [Ju] (nS N) [Ahk N,rM N,zK N] AiO Ale f142 N
def Aj0:AvM:=[AvK 3 [],AvK 10 [0,1,5]]
def Amt:Lk:=⟨[],[(10,⟨[(0,.i),(1,.i),(5,.c x64)],[]⟩,[(0,⟨[],[]⟩)])]⟩
def Amu:=JP 243 [Ju,.cell false .fn] [JV] (fun a=>Ab7 N a.1 a.2) [] Aj0 Amt f243 N (dd:=[(12,AeU N)]) (hD:=⟨AkL N,trivial⟩)
def qV:AvM:=[AvK 3 [],AvK 11 [0,13,14,15],AvK 18 [0,13,14,15],AvK 38 [0,6,13,14,15,25,26,27]]
def tN:Lk:=⟨[],[(18,⟨[(0,.i),(13,.i),(14,.i),(15,.c x64)],[]⟩,[(0,⟨[],[]⟩)]),(38,⟨[(0,.i),(6,.i),(13,.i),(14,.i),(15,.i),(25,.i),(26,.i),(27,.c x64)],[]⟩,[(2,⟨[(0,.i),(13,.i),(14,.i),(15,.i)],[]⟩)])]⟩
def tV:=JP 125 [Sq4,Jt] [Jt] (fun a=>Oq N a.1 a.2) [⟨184,SH N,QV N⟩] qV tN f125 N
def ZZ:AvM:=[AvK 3 [],AvK 11 [0,10,11,12],AvK 18 [0,10,11,12],AvK 38 [0,4,10,11,12,29,30,31]]
def dB:Lk:=⟨[],[(18,⟨[(0,.i),(10,.i),(11,.i),(12,.c x64)],[]⟩,[(0,⟨[],[]⟩)]),(38,⟨[(0,.i),(4,.c AP),(10,.i),(11,.i),(12,.i),(29,.i),(30,.i),(31,.c x64)],[(Avn,.box [xs,xs])]⟩,[(2,⟨[(0,.i),(10,.i),(11,.i),(12,.i)],[]⟩)])]⟩
def dC:=JP 126 [Sq7] [Jt] (Oy N) [⟨184,SH N,QV N⟩] ZZ dB f126 N
def Aag:=JP 271 [Ju] [JV] (YN N) [⟨300,qP N,Ab0 N⟩,Ahq N,Z8 N] [] AvN f271 N (bb:=[13,17,18,21,22,25])
open Go.Proofs Go.Proofs.Tryz
def Abb:AvM:=[(3,⟨[0,2,3],[],[],[(33637,Avj),(Avi,Avj)],[]⟩),(11,⟨[0,2,3],[],[],[(33638,Avl),(Avk,Avl)],[]⟩),(14,⟨[0,2,3,4],[],[],[(33637,Avi),(37376,Avi)],[]⟩),(30,⟨[0,2,3,5],[],[],[(33638,Avk),(40704,Avk)],[]⟩)]
def AcE:Lk:=⟨[],[(14,⟨[(0,.c AL),(2,.c AB),(3,.c AQ),(4,.c x64)],[(0,.box BG),(Avm,.box BM),(Av1,.JX 103 false Tq1),(33282,.JX 103 false Tq1),(Avo,.box [(xo Avi),(xo 33638)]),(33638,.JX 103 false Tq1),(Avi,.arr 103 false Tq1)]⟩,[(0,⟨[(0,.c AL),(2,.c AB),(3,.c AQ)],[(0,.box BG),(Avm,.box BM),(Av1,.JX 103 false Tq1),(33282,.JX 103 false Tq1),(Avo,.box [(xo Avj),(xo 33638)]),(33638,.JX 103 false Tq1),(Avj,.arr 103 false Tq1)]⟩)]),(30,⟨[(0,.c AL),(2,.c AB),(3,.c AQ),(5,.c x64)],[(0,.box BG),(Avm,.box BM),(Av1,.JX 103 false Tq1),(33282,.JX 103 false Tq1),(Avo,.box [(xo Avj),(xo Avk)]),(Avj,.arr 103 false Tq1),(Avk,.arr 103 false Tq1)]⟩,[(2,⟨[(0,.c AL),(2,.c AB),(3,.c AQ)],[(0,.box BG),(Avm,.box BM),(Av1,.JX 103 false Tq1),(33282,.JX 103 false Tq1),(Avo,.box [(xo Avj),(xo Avl)]),(Avj,.arr 103 false Tq1),(Avl,.arr 103 false Tq1)]⟩)])]⟩
def AcF:=JP 52 [Sq0] [Sq9] (VY N) [Me N,AiZ N] Abb AcE f52 N
def Aen:AvM:=[(3,⟨[3],[([3],154,Tq2,Avk)],[],[(Avi,Avk)],[]⟩),(14,⟨[0,3,4],[([3],154,Tq2,Avi)],[],[(41216,Avi)],[]⟩),(33,⟨[0,3,4,5],[([3],154,Tq2,Avj)],[(some Avr,3,Au)],[(Avi,Avj)],[]⟩)]
def Af8:Lk:=⟨[(33,⟨[(0,.c AL),(3,.c (xo Avj)),(4,.i),(5,.c AU)],[(0,.box BG),(Avr,.box [(xo 36608),x64,xb,Bj]),(36608,.arr 103 false Tq1),(Avj,.arr 154 false Tq2)]⟩)],[(14,⟨[(0,.c AL),(3,.c (xo Avi)),(4,.c x64)],[(0,.box BG),(Avi,.arr 154 false Tq2)]⟩,[(0,⟨[(3,.c (xo Avk))],[(0,.box BG),(Avk,.arr 154 false Tq2)]⟩)])]⟩
def Af9:=JP 53 [Sq0] [.cell false (.sl 154 Tq2)] (VJ N) [Me N,kV N,Aba N] Aen Af8 f53 N
def Tv:=J9 98 [Sq4] [Ju] (MO N) [Alf N] f98 N
def Aim:=J9 201 [Jt,Ju] [JV] (fun a=>qF N a.1 a.2) [⟨242,Ads N,AfY N⟩,Amu N] f201 N
def Acv:=J9 270 [Ju] [JV] (Zd N) [Aag N,⟨299,XK N,dL N⟩,Z8 N] f270 N
def dD:AvM:=[AvK 3 [],AvK 10 [0,10,11,12],AvK 11 [0,4,10,11,12],AvK 42 [0,4,10,11,12,30,31,32]]
def fP:Lk:=⟨[],[(10,⟨[(0,.i),(10,.i),(11,.i),(12,.c x64)],[]⟩,[(0,⟨[],[]⟩)]),(42,⟨[(0,.i),(4,.c AP),(10,.i),(11,.i),(12,.i),(30,.i),(31,.i),(32,.c x64)],[(Avn,.box [xs,xb,xs])]⟩,[(2,⟨[(0,.i),(4,.c AP),(10,.i),(11,.i),(12,.i)],[(Avn,.box [xs,xb,xs])]⟩)])]⟩
def fQ:=JP 130 [.cell false (.sl 108 Tq3)] [Jt] (TF N) [⟨184,SH N,QV N⟩,jJ N,⟨185,Y7 N,Yw N⟩] dD fP f130 N
def gJ:AvM:=[(3,⟨[0,5],[([5],9,Ar,Avj)],[],[(Avi,Avj)],[]⟩),(14,⟨[0,5,9,10,11],[([5],9,Ar,Avi)],[],[(37888,Avi)],[]⟩)]
def jV:Lk:=⟨[],[(14,⟨[(0,.c AL),(5,.c (xo Avi)),(9,.i),(10,.i),(11,.c x64)],[(0,.box [xb]),(Avi,.arr 9 false Ar)]⟩,[(0,⟨[(0,.c AL),(5,.c (xo Avj))],[(0,.box [xb]),(Avj,.arr 9 false Ar)]⟩)])]⟩
def jW:=JP 150 [.box [(false,.bool)],Sq6] [Ju] (fun a=>PO N a.1 a.2) [Xg N,Md N] gJ jV f150 N
def gI:AvM:=[(3,⟨[0,5],[([5],9,Ar,Avj)],[],[(Avi,Avj)],[]⟩),(14,⟨[0,5,9,10,11],[([5],9,Ar,Avi)],[],[(38656,Avi)],[]⟩)]
def jT:Lk:=⟨[],[(14,⟨[(0,.c AL),(5,.c (xo Avi)),(9,.i),(10,.i),(11,.c x64)],[(0,.box [xb]),(Avi,.arr 9 false Ar)]⟩,[(0,⟨[(0,.c AL),(5,.c (xo Avj))],[(0,.box [xb]),(Avj,.arr 9 false Ar)]⟩)])]⟩
def jU:=JP 153 [.box [(false,.bool)],Sq6] [Ju] (fun a=>PN N a.1 a.2) [Xg N,Md N] gI jT f153 N
open Go.Proofs Go.Proofs.Tryz
def Ah6:AvM:=[AvK 3 [2,3],AvK 14 [0,2,3,4],AvK 41 [0,2,3,4,13,27]]
def Aja:Lk:=⟨[(41,⟨[(0,.c AL),(2,.c AB),(3,.c AQ),(4,.i),(13,.i),(27,.c xb)],[(0,.box BG),(Avm,.box Bq),(33285,.JX 9 false Ar),(33286,.JX 9 false Ar),(33287,.JX 152 false (.str Ar)),(33291,.JX 103 false Tq1),(33293,.JX 103 false Tq1),(33294,.JX 103 false Tq1),(33297,.JX 154 false Tq2),(33298,.JX 154 false Tq2),(33299,.JX 108 false Tq3),(Avo,.box Bv)]⟩)],[(14,⟨[(0,.c AL),(2,.c AB),(3,.c AQ),(4,.c x64)],[(0,.box BG),(Avm,.box Bq),(33285,.JX 9 false Ar),(33286,.JX 9 false Ar),(33287,.JX 152 false (.str Ar)),(33291,.JX 103 false Tq1),(33293,.JX 103 false Tq1),(33294,.JX 103 false Tq1),(33297,.JX 154 false Tq2),(33298,.JX 154 false Tq2),(33299,.JX 108 false Tq3),(Avo,.box Bv)]⟩,[(0,⟨[(2,.c AB),(3,.c AQ)],[(0,.box BG),(Avm,.box Bq),(33285,.JX 9 false Ar),(33286,.JX 9 false Ar),(33287,.JX 152 false (.str Ar)),(33291,.JX 103 false Tq1),(33293,.JX 103 false Tq1),(33294,.JX 103 false Tq1),(33297,.JX 154 false Tq2),(33298,.JX 154 false Tq2),(33299,.JX 108 false Tq3),(Avo,.box Bv)]⟩)])]⟩
def Ajb:=JP 20 [Sq0] [Sq6] (eG N) [Aic N,Me N,Ajf N,AcH N,kV N,AcF N,Af9 N] Ah6 Aja f20 N
def VB (N:Nat):Alt:=.of [.cell false .str,.cell false (.int .i64)] [Ad3,.cell false (.int .i64)] [.cell false .ptr,.cell false (.int .i64)] (fun a=>Qz N a.1 a.2)
def rP (N:Nat):Spec Tryz.prog 54 (VB N).1/\Spec Tryz.prog 54 (VB N).2.1:=TE (C:=ctx Tryz.prog (ksp [Tv N]) [] [] [] [23]) (L:=⟨[],[]⟩) (fn:=f54) (N:=N) (MG (NM _)) (by kernel_rfl) (by kernel_rfl) (fun a=>by kernel_rfl)
def eP:=J9 91 [Ju,Jt,Jt,Ju,Ju] [Ju] (fun a=>P8 N a.1 a.2.1 a.2.2.1 a.2.2.2.1 a.2.2.2.2) [Ajj N,iF N,Tv N] f91 N
def Ajo:AvM:=[AvK 3 [5],AvK 10 [0,1,2,4,5,13]]
def AlU:Lk:=⟨[],[(10,⟨[(0,.i),(1,.i),(2,.i),(4,.i),(5,.c xs),(13,.c x64)],[]⟩,[(0,⟨[(5,.c xs)],[]⟩)])]⟩
def oM:=JP 137 [Ju,Jt,Jt,Jt,Jt,Ju] [Ju] (fun a=>Yq N a.1 a.2.1 a.2.2.1 a.2.2.2.1 a.2.2.2.2.1 a.2.2.2.2.2) [Abj N,AhP N,Tv N] Ajo AlU f137 N
def wR:=J9 138 [Ju,Jt,Sq4] [Ju] (fun a=>X6 N a.1 a.2.1 a.2.2) [Abj N,AcS N,Tv N] f138 N
def wU:=J9 190 [Ju,Jt,Jt] [Ju] (fun a=>X7 N a.1 a.2.1 a.2.2) [Abj N,AhP N,Tv N] f190 N
def gQ:AvM:=[AvK 3 [],AvK 11 [0,13,14,15],AvK 26 [0,13,14,15],AvK 62 [0,4,13,14,15,41,42,43]]
def kK:Lk:=⟨[],[(26,⟨[(0,.i),(13,.i),(14,.i),(15,.c x64)],[]⟩,[(0,⟨[],[]⟩)]),(62,⟨[(0,.i),(4,.c AP),(13,.i),(14,.i),(15,.i),(41,.i),(42,.i),(43,.c x64)],[(Avn,.box [xs,x64,xs])]⟩,[(2,⟨[(0,.i),(13,.i),(14,.i),(15,.i)],[]⟩)])]⟩
def kL:=JP 123 [.cell false (.sl 90 Tq0)] [Jt] (Ry N) [⟨184,SH N,QV N⟩,Aim N] gQ kK f123 N
def vI:=JP 249 [Jt,Ju,JV] [JV] (fun a=>Wu N a.1 a.2.1 a.2.2) [Acv N,Aag N,AiQ N,Aee N,Ahm N,Aed N] [] AvN f249 N (bb:=[11,14,15,18,21,22,26,29,30,33,36,37,41,44,45,48,51,52])
open Go.Proofs Go.Proofs.Tryz
def Af1:AvM:=[(3,⟨[5],[([5],9,Ar,Avj)],[],[(Avi,Avj)],[]⟩),(26,⟨[5,17,18,19],[([5],9,Ar,Avi)],[],[(41216,Avi)],[]⟩)]
def AgV:Lk:=⟨[],[(26,⟨[(5,.c (xo Avi)),(17,.i),(18,.i),(19,.c x64)],[(Avi,.arr 9 false Ar)]⟩,[(0,⟨[(5,.c (xo Avj))],[(Avj,.arr 9 false Ar)]⟩)])]⟩
def AgW:=JP 60 [.cell false (.sl 108 Tq3)] [Ju,Jt] (Z7 N) [Aab N,Acj N,Qc N] Af1 AgV f60 N
def eH:=J9 90 [Sq5,Jt,Ju] [Ju] (fun a=>Oj N a.1 a.2.1 a.2.2) [iF N,Tv N] f90 N
def AeT (N n:Nat):Sig:=.of [Akq,Sq5] [.cell false (.int .i64)] (ZK N n)
def AkK (N:Nat):VP Tryz.prog (AeT N):=Yi (Js:=[Akq,Sq5]) (J7:=[.cell false (.int .i64)]) (l:=[(195,fun a=>Nr N a.1 a.2),(196,fun a=>PS N a.1 a.2)]) ⟨(Zf N).h,(kU N).h,trivial⟩
def Af0:AvM:=[(3,⟨[7],[([7],108,Tq3,Avj)],[],[(Avi,Avj)],[]⟩),(46,⟨[7,33,34,35],[([7],108,Tq3,Avi)],[],[(45568,Avi)],[]⟩)]
def AgT:Lk:=⟨[],[(46,⟨[(7,.c (xo Avi)),(33,.i),(34,.i),(35,.c x64)],[(Avi,.arr 108 false Tq3)]⟩,[(0,⟨[(7,.c (xo Avj))],[(Avj,.arr 108 false Tq3)]⟩)])]⟩
def AgU:=JP 119 [Ju] [.cell false (.sl 108 Tq3),Jt] (Z5 N) [WV N,Pq N,Ach N,Aab N] Af0 AgT f119 N
def tX:=JP 145 [Ju,V7] [Jt] (fun a=>QX N a.1 a.2) [zH N,Rn N,Wl N,Px N] [] AvN f145 N (aa:=[(27,TJ N)]) (hA:=⟨UD N,trivial⟩)
def QS (N:Nat):Alt:=.of [.cell false .str] [QW,.cell false (.int .i64)] [.cell false .ptr,.cell false (.int .i64)] (fun a=>Rf N a)
def TG (N:Nat):Spec Tryz.prog 217 (QS N).1/\Spec Tryz.prog 217 (QS N).2.1:=TE (C:=ctx Tryz.prog (ksp [QL N]) [] [(27,TJ N)]) (L:=⟨[],[]⟩) (fn:=f217) (N:=N) (MG (NM _) ⟨UD N,trivial⟩) (by kernel_rfl) (by kernel_rfl) (fun a=>by kernel_rfl)
def fV:=JP 175 [Ju,V7] [Jt] (fun a=>OW N a.1 a.2) [MX N,aA N,Px N] [] AvN f175 N (aa:=[(27,TJ N)]) (hA:=⟨UD N,trivial⟩)
open Go.Proofs Go.Proofs.Tryz
def YO:=J9 4 [Sq0] [sK] (MP N) [iD N,Al7 N,Ajb N] f4 N
def iQ (N:Nat):Alt:=.of [.cell false .str,.cell false (.int .i64),.cell false (.int .i64)] [Aaz,.cell false (.int .i64)] [.cell false .ptr,.cell false (.int .i64)] (fun a=>fE N a.1 a.2.1 a.2.2)
def AfT (N:Nat):Spec Tryz.prog 21 (iQ N).1/\Spec Tryz.prog 21 (iQ N).2.1:=TE (C:=ctx Tryz.prog (ksp [TQ N]) [] [(54,VB N)]) (L:=⟨[],[]⟩) (fn:=f21) (N:=N) (MG (NM _) ⟨rP N,trivial⟩) (by kernel_rfl) (by kernel_rfl) (fun a=>by kernel_rfl)
def AfI:AvM:=[AvK 3 [0,2,9],(26,⟨[0,1,2,9,10],[([9],9,Ar,Avi)],[],[(Av6,Avi)],[]⟩)]
def AhN:Lk:=⟨[],[(26,⟨[(0,.i),(1,.i),(2,.i),(9,.c (xo Avi)),(10,.c x64)],[(Avi,.arr 9 false Ar)]⟩,[(0,⟨[(0,.i),(2,.i),(9,.c (xo Avi))],[(Avi,.arr 9 false Ar)]⟩)])]⟩
def AhO:=JP 131 [Ju,Ju,Jt] [Ju,Jt] (fun a=>ZC N a.1 a.2.1 a.2.2) [eY N,wU N,oM N,wR N] AfI AhN f131 N
def AdP:AvM:=[AvK 3 [],AvK 18 [11,12,13]]
def Afz:Lk:=⟨[],[(18,⟨[(11,.i),(12,.i),(13,.c x64)],[]⟩,[(0,⟨[],[]⟩)])]⟩
def Uc:=JP 79 [Sq2] [Jt] (Ob N) [kL N] AdP Afz f79 N
def Ajm:AvM:=[AvK 3 [13],(38,⟨[0,1,2,11,13,14],[([13],9,Ar,Avi)],[],[(45056,Avi)],[]⟩)]
def AlR:Lk:=⟨[],[(38,⟨[(0,.i),(1,.i),(2,.i),(11,.i),(13,.c (xo Avi)),(14,.c x64)],[(Avi,.arr 9 false Ar)]⟩,[(0,⟨[(13,.c (xo Avi))],[(Avi,.arr 9 false Ar)]⟩)])]⟩
def AlS:=JP 109 [Ju,Ju,Jt,Ju] [Ju,Jt] (fun a=>oL N a.1 a.2.1 a.2.2.1 a.2.2.2) [eY N,wQ N,wU N,oM N,AcS N] Ajm AlR f109 N
def AdI:=J9 26 [Ju,Ju] [Ju,Jt] (fun a=>Xl N a.1 a.2) [⟨68,zZ N,AdC N⟩] f26 N
def zL:AvM:=[AvK 3 [2,4,7,8],AvK 50 [2,4,7,8,35,36,37]]
def AaV:Lk:=⟨[],[(50,⟨[(2,.c AB),(4,.c AP),(7,.c Bh),(8,.c AY),(35,.c (xo 41728)),(36,.i),(37,.c x64)],[(Avm,.box BK),(Avn,.box BK),(Av2,.box BN),(41728,.arr 221 false (.fn .nil))]⟩,[(0,⟨[(2,.c AB),(4,.c AP),(7,.c Bh),(8,.c AY)],[(Avm,.box BK),(Avn,.box BK),(Av2,.box BN)]⟩)])]⟩
def AaW:=JP 117 [Ju] [Sq5,Jt] (Vp N) [WV N,Pq N] zL AaV f117 N (dd:=[(45,AeT N)]) (hD:=⟨AkK N,trivial⟩)
def fZ:AvM:=[(3,⟨[6],[],[],[(261,Avj),(Avi,Avj)],[]⟩),(10,⟨[1,5,6],[],[],[(261,Avi),(Av6,Avi)],[]⟩)]
def jO:Lk:=⟨[],[(10,⟨[(1,.c (.c (.ptr 256 0))),(5,.c (.c (.ptr 35328 0))),(6,.c x64)],[(256,.box [xb,xb,x64,x64,(xo Avi),(xo 262),(xo 263),x64,x64,x64,Be,xb,Be,Be,xs,xs,Bf,Bf,(xo 275)]),(262,.arr 9 true Ar),(263,.arr 152 true (.str Ar)),(275,.arr 108 true Tq3),(35328,.box [Bh]),(Avi,.arr 9 true Ar)]⟩,[(0,⟨[(6,.c x64)],[(256,.box [xb,xb,x64,x64,(xo Avj),(xo 262),(xo 263),x64,x64,x64,Be,xb,Be,Be,xs,xs,Bf,Bf,(xo 275)]),(262,.arr 9 true Ar),(263,.arr 152 true (.str Ar)),(275,.arr 108 true Tq3),(Avj,.arr 9 true Ar)]⟩)])]⟩
def jP:=JP 151 [Ju,V7] [Jt] (fun a=>PK N a.1 a.2) [QL N,Xf N] fZ jO f151 (N+1) (aa:=[(217,QS N)]) (hA:=⟨TG N,trivial⟩)
open Go.Proofs Go.Proofs.Tryz
def PR (N:Nat):Alt:=.of [QW] [QW,.cell false (.int .i64)] [.cell false .ptr,.cell false (.int .i64)] (fun a=>MB N a)
def Tq (N:Nat):Spec Tryz.prog 253 (PR N).1/\Spec Tryz.prog 253 (PR N).2.1:=TE (C:=ctx Tryz.prog (ksp [MX N]) [] [(70,Tm N)]) (L:=⟨[],[]⟩) (fn:=f253) (N:=N) (MG (NM _) ⟨Wp N,trivial⟩) (by kernel_rfl) (by kernel_rfl) (fun a=>by kernel_rfl)
def mO:=J9 163 [Ju,V7] [Jt] (fun a=>Qd N a.1 a.2) [⟨69,O5 N,Rl N⟩,Wl N] f163 N
def mQ:=J9 172 [Ju,V7] [Jt] (fun a=>Qe N a.1 a.2) [⟨69,O5 N,Rl N⟩,aA N] f172 N
def YF (N:Nat):WY Tryz.prog 31 true (.of [fG,QW] [.cell false (.int .i64)] (fun a=>Na N a.1 a.2)):=Qq (C:=ctx Tryz.prog (ksp [aN N,UJ N]) []) (L:=⟨[],[]⟩) (fn:=f31) (N:=N) (MG (NM _)) (by kernel_rfl) (by kernel_rfl) (fun a=>by kernel_rfl)
def Adg:AvM:=[AvK 3 [0,2,9],AvK 26 [0,1,2,9,10]]
def Ae4:Lk:=⟨[],[(26,⟨[(0,.i),(1,.i),(2,.i),(9,.c xs),(10,.c x64)],[]⟩,[(0,⟨[(0,.i),(2,.i),(9,.c xs)],[]⟩)])]⟩
def Ae5:=JP 86 [Ju,Ju,Jt] [Ju,Jt] (fun a=>X9 N a.1 a.2.1 a.2.2) [AfQ N,Ae8 N,xH N,TY N,RH N] Adg Ae4 f86 N
def Abx:AvM:=[AvK 3 [0,1,12],AvK 50 [0,1,3,10,12,35,36]]
def Adh:Lk:=⟨[],[(50,⟨[(0,.i),(1,.i),(3,.i),(10,.i),(12,.c xs),(35,.i),(36,.c x64)],[]⟩,[(0,⟨[(0,.i),(1,.i),(12,.c xs)],[]⟩)])]⟩
def Adi:=JP 94 [Ju,Jt,Ju,Ju] [Ju,Jt] (fun a=>qM N a.1 a.2.1 a.2.2.1 a.2.2.2) [Ae3 N,xH N,TY N,RH N] Abx Adh f94 N
open Go.Proofs Go.Proofs.Tryz
def zS:AvM:=[(3,⟨[1,4,6,7],[([7],9,Ar,Avj)],[],[(Avi,Avj)],[]⟩),(11,⟨[4,6],[],[],[(46080,Av3),(Avk,Av3)],[]⟩),(19,⟨[1,4,6,11,12],[([12],9,Ar,Avp)],[],[(46080,Av4),(Avl,Avp),(Avs,Av4)],[]⟩),(34,⟨[0,1,4,6,7,8],[([7],9,Ar,Avi)],[],[(44800,Avi)],[]⟩),(58,⟨[1,4,6,7,11],[],[],[(46080,Avk),(56320,Avk),(Avp,Avj)],[]⟩),(74,⟨[1,4,6,7,11,12,13],[([12],9,Ar,Avl)],[],[(46080,Avs),(54784,Avl),(Avk,Avs)],[]⟩)]
def Abv:Lk:=⟨[],[(34,⟨[(0,.i),(1,.i),(4,.c AP),(6,.c AV),(7,.c (xo Avi)),(8,.c x64)],[(Avn,.box BJ),(Av9,.JX 28 false (.sl 9 Ar .nil)),(Avt,.box [xs,xs,(xo 34407)]),(34407,.JX 28 false (.sl 9 Ar .nil)),(Avi,.arr 9 false Ar)]⟩,[(0,⟨[(1,.i),(4,.c AP),(6,.c AV),(7,.c (xo Avj))],[(Avn,.box BJ),(Av9,.JX 28 false (.sl 9 Ar .nil)),(Avt,.box [xs,xs,(xo 34407)]),(34407,.JX 28 false (.sl 9 Ar .nil)),(Avj,.arr 9 false Ar)]⟩)]),(58,⟨[(1,.i),(4,.c AP),(6,.c AV),(7,.c (xo Avj)),(11,.c x64)],[(Avn,.box BJ),(Av9,.JX 28 false (.sl 9 Ar .nil)),(Avt,.box [xs,xs,(xo Avk)]),(Avj,.arr 9 true Ar),(Avk,.arr 28 false (.sl 9 Ar .nil))]⟩,[(2,⟨[(4,.c AP),(6,.c AV)],[(Avn,.box BJ),(Av9,.JX 28 false (.sl 9 Ar .nil)),(Avt,.box [xs,xs,(xo Av3)]),(Av3,.arr 28 false (.sl 9 Ar .nil))]⟩)]),(74,⟨[(1,.i),(4,.c AP),(6,.c AV),(7,.c (xo Avj)),(11,.i),(12,.c (xo Avl)),(13,.c x64)],[(Avn,.box BJ),(Av9,.JX 28 false (.sl 9 Ar .nil)),(Avt,.box [xs,xs,(xo Avs)]),(Avj,.arr 9 true Ar),(Avl,.arr 9 false Ar),(Avs,.arr 28 false (.sl 9 Ar .nil))]⟩,[(4,⟨[(1,.i),(4,.c AP),(6,.c AV),(11,.i),(12,.c (xo Avp))],[(Avn,.box BJ),(Av9,.JX 28 false (.sl 9 Ar .nil)),(Avt,.box [xs,xs,(xo Av4)]),(Avp,.arr 9 false Ar),(Av4,.arr 28 false (.sl 9 Ar .nil))]⟩)])]⟩
def Abw:=JP 37 [Ju,Jt] [AoO,Jt] (fun a=>Vw N a.1 a.2) [RH N,Ae5 N,ZE N,TY N] zS Abv f37 N
def Adj:AvM:=[AvK 3 [3,11],AvK 42 [2,3,8,9,11,13]]
def Ae6:Lk:=⟨[],[(42,⟨[(2,.i),(3,.c AQ),(8,.i),(9,.i),(11,.c xs),(13,.c x64)],[(Avo,.box BN)]⟩,[(0,⟨[(3,.c AQ),(11,.c xs)],[(Avo,.box BN)]⟩)])]⟩
def Ae7:=JP 45 [Sq5,Ju,Ju] [Jt] (fun a=>XA N a.1 a.2.1 a.2.2) [Abu N,Aia N,TY N,RH N,Adi N,ZE N] Adj Ae6 f45 N
open Go.Proofs Go.Proofs.Tryz
def qY:AvM:=[(3,⟨[],[],[],[(517,AvA),(518,AvB),(519,Avs),(531,Avl),(Avi,Avl),(Avv,Avs),(Avw,AvB),(Avx,AvA)],[]⟩),(11,⟨[1,2,7,9,11],[([11],9,Ar,Avk)],[],[(517,AvC),(518,AvD),(519,AvE),(531,Avu),(Avj,Avk),(Avq,Avu),(Avy,AvE),(Avz,AvD),(Av5,AvC)],[]⟩),(18,⟨[1,2,7],[],[],[(517,Avx),(518,Avw),(519,Avv),(531,Avi),(617,Avx),(618,Avw),(619,Avv),(631,Avi)],[]⟩),(38,⟨[1,2,7,9,11],[([11],9,Ar,Avj)],[],[(517,Av5),(518,Avz),(519,Avy),(531,Avq),(45312,Avj),(Avi,Avq),(Avv,Avy),(Avw,Avz),(Avx,Av5)],[]⟩)]
def uA:Lk:=⟨[],[(18,⟨[(1,.i),(2,.c (.c (.clo 222 512))),(7,.c AZ)],[(512,.box BA),(37120,.box [Bh]),(Avi,.arr 108 true Tq3),(Avv,.arr 152 true (.str Ar)),(Avw,.arr 9 true Ar),(Avx,.arr 9 true Ar)]⟩,[(0,⟨[],[(512,.box BB),(Avl,.arr 108 true Tq3),(Avs,.arr 152 true (.str Ar)),(AvB,.arr 9 true Ar),(AvA,.arr 9 true Ar)]⟩)]),(38,⟨[(1,.i),(2,.c (.c (.clo 222 512))),(7,.c AZ),(9,.c Bc),(11,.c (xo Avj))],[(512,.box BC),(37120,.box [Bh]),(Av7,.box [Bh]),(Avj,.arr 9 false Ar),(Avq,.arr 108 true Tq3),(Avy,.arr 152 true (.str Ar)),(Avz,.arr 9 true Ar),(Av5,.arr 9 true Ar)]⟩,[(2,⟨[(1,.i),(2,.c (.c (.clo 222 512))),(7,.c AZ),(9,.c Bc),(11,.c (xo Avk))],[(512,.box BD),(37120,.box [Bh]),(Av7,.box [Bh]),(Avk,.arr 9 false Ar),(Avu,.arr 108 true Tq3),(AvE,.arr 152 true (.str Ar)),(AvD,.arr 9 true Ar),(AvC,.arr 9 true Ar)]⟩)])]⟩
def uB:=JP 220 [Ju,Jt,AuQ] [Jt] (fun a=>Wi N a.1 a.2.1 a.2.2) [QL N,Xf N,Px N] qY uA f220 (N+1) (aa:=[(217,QS N),(253,PR N)]) (dd:=[(55,AgJ N)]) (hA:=⟨TG N,Tq N,trivial⟩) (hD:=⟨AmW N,trivial⟩)
def qZ:AvM:=[(3,⟨[],[],[],[(517,AvA),(518,AvB),(519,Avs),(531,Avl),(Avi,Avl),(Avv,Avs),(Avw,AvB),(Avx,AvA)],[]⟩),(11,⟨[1,2,7,9,11],[([11],9,Ar,Avk)],[],[(517,AvC),(518,AvD),(519,AvE),(531,Avu),(Avj,Avk),(Avq,Avu),(Avy,AvE),(Avz,AvD),(Av5,AvC)],[]⟩),(18,⟨[1,2,7],[],[],[(517,Avx),(518,Avw),(519,Avv),(531,Avi),(617,Avx),(618,Avw),(619,Avv),(631,Avi)],[]⟩),(38,⟨[1,2,7,9,11],[([11],9,Ar,Avj)],[],[(517,Av5),(518,Avz),(519,Avy),(531,Avq),(45312,Avj),(Avi,Avq),(Avv,Avy),(Avw,Avz),(Avx,Av5)],[]⟩)]
def uC:Lk:=⟨[],[(18,⟨[(1,.i),(2,.c (.c (.clo 223 512))),(7,.c AZ)],[(512,.box BA),(37120,.box [Bh]),(Avi,.arr 108 true Tq3),(Avv,.arr 152 true (.str Ar)),(Avw,.arr 9 true Ar),(Avx,.arr 9 true Ar)]⟩,[(0,⟨[],[(512,.box BB),(Avl,.arr 108 true Tq3),(Avs,.arr 152 true (.str Ar)),(AvB,.arr 9 true Ar),(AvA,.arr 9 true Ar)]⟩)]),(38,⟨[(1,.i),(2,.c (.c (.clo 223 512))),(7,.c AZ),(9,.c Bc),(11,.c (xo Avj))],[(512,.box BC),(37120,.box [Bh]),(Av7,.box [Bh]),(Avj,.arr 9 false Ar),(Avq,.arr 108 true Tq3),(Avy,.arr 152 true (.str Ar)),(Avz,.arr 9 true Ar),(Av5,.arr 9 true Ar)]⟩,[(2,⟨[(1,.i),(2,.c (.c (.clo 223 512))),(7,.c AZ),(9,.c Bc),(11,.c (xo Avk))],[(512,.box BD),(37120,.box [Bh]),(Av7,.box [Bh]),(Avk,.arr 9 false Ar),(Avu,.arr 108 true Tq3),(AvE,.arr 152 true (.str Ar)),(AvD,.arr 9 true Ar),(AvC,.arr 9 true Ar)]⟩)])]⟩
def uD:=JP 220 [Ju,Jt,AuR] [Jt] (fun a=>Wj N a.1 a.2.1 a.2.2) [QL N,Xf N,Px N] qZ uC f220 (N+1) (aa:=[(217,QS N),(253,PR N)]) (dd:=[(55,AgK N)]) (hA:=⟨TG N,Tq N,trivial⟩) (hD:=⟨AmY N,trivial⟩)
def mP:AvM:=[AvK 22 [5,25,26,27]]
def qW:=JP 160 [Ju,V7] [Jt] (fun a=>QG N a.1 a.2) [Rn N,Wl N,Px N] mP AvN f160 (N+9) (aa:=[(217,QS N)]) (hA:=⟨TG N,trivial⟩)
def Ajd:=J9 12 [Jt,Jt] [AoO] (fun a=>WO N a.1 a.2) [Y3 N,Abw N] f12 N
def Aew:AvM:=[AvK 3 [0,1,13],(46,⟨[0,1,3,11,13,14],[([13],9,Ar,Avi)],[],[(46336,Avi)],[]⟩)]
def AfJ:Lk:=⟨[],[(46,⟨[(0,.i),(1,.i),(3,.i),(11,.i),(13,.c (xo Avi)),(14,.c x64)],[(Avi,.arr 9 false Ar)]⟩,[(0,⟨[(0,.i),(1,.i),(13,.c (xo Avi))],[(Avi,.arr 9 false Ar)]⟩)])]⟩
def AfK:=JP 89 [Ju,Jt,Ju,Ju] [Ju,Jt] (fun a=>Y4 N a.1 a.2.1 a.2.2.1 a.2.2.2) [eX N,wQ N,oM N,wR N] Aew AfJ f89 N
def ZG:=J9 17 [sK] [Jt] (LQ N) [Ae7 N] f17 N
open Go.Proofs Go.Proofs.Tryz
def XH (N:Nat):Alt:=.of [.cell false .str,.cell false (.int .i64)] [Aaz,.cell false (.int .i64)] [.cell false .ptr,.cell false (.int .i64)] (fun a=>QO N a.1 a.2)
def lN (N:Nat):Spec Tryz.prog 6 (XH N).1/\Spec Tryz.prog 6 (XH N).2.1:=TE (C:=ctx Tryz.prog (ksp []) [] [(21,iQ N)]) (L:=⟨[],[]⟩) (fn:=f6) (N:=N) (MG (NM _) ⟨AfT N,trivial⟩) (by kernel_rfl) (by kernel_rfl) (fun a=>by kernel_rfl)
def rU:AvM:=[(3,⟨[0,2],[([2],9,Ar,Avj)],[],[(Avi,Avj)],[]⟩),(11,⟨[],[],[],[(44032,Av3),(Avk,Av3)],[]⟩),(14,⟨[0,2,3],[([2],9,Ar,Avi)],[],[(43264,Avi)],[]⟩),(19,⟨[0,6,7],[([7],9,Ar,Avp)],[],[(44032,Av4),(Avl,Avp),(Avs,Av4)],[]⟩),(38,⟨[0,2,6],[],[],[(44032,Avk),(56576,Avk),(Avp,Avj)],[]⟩),(54,⟨[0,2,6,7,8],[([7],9,Ar,Avl)],[],[(44032,Avs),(54016,Avl),(Avk,Avs)],[]⟩)]
def wI:Lk:=⟨[],[(14,⟨[(0,.c AL),(2,.c (xo Avi)),(3,.c x64)],[(0,.box BI),(Avi,.arr 9 false Ar)]⟩,[(0,⟨[(0,.c AL),(2,.c (xo Avj))],[(0,.box BI),(Avj,.arr 9 false Ar)]⟩)]),(38,⟨[(0,.c AL),(2,.c (xo Avj)),(6,.c x64)],[(0,.box [(xo Avk),xs,xs,x64]),(Avj,.arr 9 true Ar),(Avk,.arr 28 false (.sl 9 Ar .nil))]⟩,[(2,⟨[],[(0,.box [(xo Av3),xs,xs,x64]),(Av3,.arr 28 false (.sl 9 Ar .nil))]⟩)]),(54,⟨[(0,.c AL),(2,.c (xo Avj)),(6,.i),(7,.c (xo Avl)),(8,.c x64)],[(0,.box [(xo Avs),xs,xs,x64]),(Avj,.arr 9 true Ar),(Avl,.arr 9 false Ar),(Avs,.arr 28 false (.sl 9 Ar .nil))]⟩,[(4,⟨[(0,.c AL),(6,.i),(7,.c (xo Avp))],[(0,.box [(xo Av4),xs,xs,x64]),(Avp,.arr 9 false Ar),(Av4,.arr 28 false (.sl 9 Ar .nil))]⟩)])]⟩
def wJ:=JP 83 [Ad3] [] (Lh N) [AhO N,eP N] rU wI f83 N
def VT:=J9 202 [Sq8,JV] [Jt] (fun a=>MW N a.1 a.2) [Alc N,Uc N,vI N] f202 N
def Aca:AvM:=[(3,⟨[5],[([5],9,Ar,Avl)],[],[(Avi,Avl)],[]⟩),(11,⟨[5,8,21,22,23],[([8],9,Ar,Avk),([5],9,Ar,Avu)],[],[(Avj,Avk),(Avq,Avu)],[]⟩),(26,⟨[5,21,22,23],[([5],9,Ar,Avi)],[],[(47872,Avi)],[]⟩),(42,⟨[5,8,21,22,23,27,28,29],[([8],9,Ar,Avj),([5],9,Ar,Avq)],[],[(44032,Avj),(Avi,Avq)],[]⟩)]
def AdR:Lk:=⟨[],[(26,⟨[(5,.c (xo Avi)),(21,.i),(22,.i),(23,.c x64)],[(Avi,.arr 9 false Ar)]⟩,[(0,⟨[(5,.c (xo Avl))],[(Avl,.arr 9 false Ar)]⟩)]),(42,⟨[(5,.c (xo Avq)),(8,.c (xo Avj)),(21,.i),(22,.i),(23,.i),(27,.i),(28,.i),(29,.c x64)],[(Avj,.arr 9 false Ar),(Avq,.arr 9 false Ar)]⟩,[(2,⟨[(5,.c (xo Avu)),(8,.c (xo Avk)),(21,.i),(22,.i),(23,.i)],[(Avk,.arr 9 false Ar),(Avu,.arr 9 false Ar)]⟩)])]⟩
def kJ:=JP 63 [Sq2] [Ju,Jt] (Tt N) [Uc N,dJ N,⟨105,iV N,AeD N⟩,Qc N] Aca AdR f63 N
def AbZ:AvM:=[(3,⟨[2,4,8],[],[],[(34817,Avj),(Avi,Avj)],[]⟩),(50,⟨[2,4,8,37,38,39],[],[],[(34817,Avi),(47104,Avi)],[]⟩)]
def AdQ:Lk:=⟨[],[(50,⟨[(2,.c AB),(4,.c AP),(8,.c AY),(37,.i),(38,.i),(39,.c x64)],[(Avm,.box BQ),(Av1,.JX 88 false Au),(Avn,.box [(xo 33793)]),(33793,.JX 88 false Au),(Av2,.box [(xo Avi)]),(Avi,.arr 88 false Au)]⟩,[(0,⟨[(2,.c AB),(4,.c AP),(8,.c AY)],[(Avm,.box BQ),(Av1,.JX 88 false Au),(Avn,.box [(xo 33793)]),(33793,.JX 88 false Au),(Av2,.box [(xo Avj)]),(Avj,.arr 88 false Au)]⟩)])]⟩
def kH:=JP 116 [Ju] [Sq2,Jt] (UE N) [WV N,Pq N,gV N,Uc N] AbZ AdQ f116 N
def jY (N:Nat):WY Tryz.prog 74 true (.of [fG,QW] [.cell false (.int .i64)] (fun a=>PQ N a.1 a.2)):=Qq (C:=ctx Tryz.prog (ksp [MX N,AaW N]) []) (L:=⟨[],[]⟩) (fn:=f74) (N:=N) (MG (NM _)) (by kernel_rfl) (by kernel_rfl) (fun a=>by kernel_rfl)
def jM:=J9 154 [Ju,V7] [Jt] (fun a=>PI N a.1 a.2) [uB N] f154 N
def jL:=J9 157 [Ju,V7] [Jt] (fun a=>PH N a.1 a.2) [uD N] f157 N
open Go.Proofs Go.Proofs.Tryz
def Abg:AvM:=[AvK 3 [3,10],AvK 58 [3,10,12,13,14],AvK 61 [3,10,12,13,14]]
def AcJ:Lk:=⟨[(61,⟨[(3,.c AQ),(10,.c xs),(12,.i),(13,.i),(14,.i)],[(Avo,.box BN)]⟩)],[(58,⟨[(3,.c AQ),(10,.c xs),(12,.i),(13,.c x64),(14,.c x64)],[(Avo,.box BN)]⟩,[(0,⟨[(3,.c AQ),(10,.c xs)],[(Avo,.box BN)]⟩)])]⟩
def AcK:=JP 44 [Sq5,Ju,Ju] [Jt] (fun a=>P7 N a.1 a.2.1 a.2.2) [Vs N,AfB N,eH N,AfK N,eP N] Abg AcJ f44 N
open Go.Proofs Go.Proofs.Tryz
def Zn:=J9 36 [Ad3] [Sq5] (Pg N) [Ur N,wJ N,rV N] f36 N
def jF:AvM:=[AvK 3 [],AvK 10 [6,7,8]]
def mG:Lk:=⟨[],[(10,⟨[(6,.i),(7,.i),(8,.c x64)],[]⟩,[(0,⟨[],[]⟩)])]⟩
def Xe:=JP 127 [.cell false (.sl 103 Tq1)] [Jt] (Oz N) [VT N] jF mG f127 N
def Ab2:AvM:=[AvK 3 [],AvK 11 [32,33,34],AvK 26 [32,33,34],AvK 38 [32,33,34,38,39,40]]
def Adr:Lk:=⟨[],[(26,⟨[(32,.c (xo Av6)),(33,.i),(34,.c x64)],[(Av6,.arr 30 false (.sl 103 Tq1 .nil))]⟩,[(0,⟨[],[]⟩)]),(38,⟨[(32,.c (xo Av6)),(33,.i),(34,.i),(38,.i),(39,.i),(40,.c x64)],[(Av6,.arr 30 false (.sl 103 Tq1 .nil))]⟩,[(2,⟨[(32,.c (xo Av6)),(33,.i),(34,.i)],[(Av6,.arr 30 false (.sl 103 Tq1 .nil))]⟩)])]⟩
def XL:=JP 203 [Sq9] [Jt] (Om N) [VT N] Ab2 Adr f203 N
def Yj:=J9 255 [Sq8,JV] [Ju,Jt] (fun a=>MS N a.1 a.2) [VT N,Qc N,kJ N] f255 N
def Zz (N:Nat):WY Tryz.prog 73 true (.of [fG,QW] [.cell false (.int .i64)] (fun a=>ND N a.1 a.2)):=Qq (C:=ctx Tryz.prog (ksp [MX N,kH N]) []) (L:=⟨[],[]⟩) (fn:=f73) (N:=N) (MG (NM _)) (by kernel_rfl) (by kernel_rfl) (fun a=>by kernel_rfl)
def Acp:AvM:=[AvK 29 [1,2,4,6,11,13],(53,⟨[1,4,6],[],[(some Avt,2,Au)],[],[]⟩)]
def Aea:Lk:=⟨[(29,⟨[(1,.i),(2,.c AB),(4,.c AP),(6,.c AV),(11,.i),(13,.c xb)],[(Avm,.box BN),(Avn,.box [AA,A8,(xo Av9)]),(Av9,.JX 88 false Au),(Avt,.box [AA,A8,(xo 34307)]),(34307,.JX 88 false Au)]⟩),(53,⟨[(1,.i),(4,.c AP),(6,.c AV)],[(Avn,.box [AA,A8,(xo Av9)]),(Av9,.JX 88 false Au),(Avt,.box [x64,xs,Bj])]⟩)],[]⟩
def kQ:=JP 256 [Sq5,JV] [Sq8,Jt] (fun a=>Np N a.1 a.2) [kH N,VT N] Acp Aea f256 N
def aG:=J9 16 [sK] [Jt] (JM N) [AcK N] f16 N
open Go.Proofs Go.Proofs.Tryz
def Us:=JP 10 [Aaz] [Sq5] (KG N) [Ua N,Zn N] [] AvN f10 N (kk:=[(36,[(0,1),(0,2),(0,3)])])
def Za:=J9 128 [Sq6] [Jt] (OU N) [XL N] f128 N
def jG:AvM:=[AvK 13 [1,4]]
def mJ:Lk:=⟨[(13,⟨[(1,.c AX),(4,.c xb)],[(AvG,.box [Be,x64,xb,Bj])]⟩)],[]⟩
def mM:=JP 204 [AsH] [Jt] (RU N) [Xe N,Uc N] jG mJ f204 N
def rH:AvM:=[AvK 3 [5],AvK 26 [5,16,17,18]]
def vH:Lk:=⟨[],[(26,⟨[(5,.c xs),(16,.i),(17,.i),(18,.c x64)],[]⟩,[(0,⟨[(5,.c xs)],[]⟩)])]⟩
def YL:=JP 223 [.cell false (.sl 103 Tq1)] [Ju,Jt] (PY N) [qJ N,Yj N] rH vH f223 N
def lU:AvM:=[(3,⟨[0,6],[([6],9,Ar,Avj)],[],[(Avi,Avj)],[]⟩),(22,⟨[0,6,15,16,17],[([6],9,Ar,Avi)],[],[(43264,Avi)],[]⟩)]
def qB:Lk:=⟨[],[(22,⟨[(0,.i),(6,.c (xo Avi)),(15,.i),(16,.i),(17,.c x64)],[(Avi,.arr 9 false Ar)]⟩,[(0,⟨[(0,.i),(6,.c (xo Avj))],[(Avj,.arr 9 false Ar)]⟩)])]⟩
def qC:=JP 257 [Jt,.cell false (.sl 103 Tq1)] [Ju,Jt] (fun a=>Nv N a.1 a.2) [Yj N,Qc N] lU qB f257 N
def rQ:AvM:=[AvK 3 [10],AvK 42 [0,10,11,12]]
def wG:Lk:=⟨[],[(42,⟨[(0,.c AL),(10,.c xs),(11,.c x64),(12,.c x64)],[(0,.box BI)]⟩,[(0,⟨[(10,.c xs)],[(0,.box BI)]⟩)])]⟩
def wH:=JP 67 [Ad3,Jt,Ju] [Ju,Jt] (fun a=>Qa N a.1 a.2.1 a.2.2) [Ur N,TQ N,Zn N,eH N,AlS N,iF N] rQ wG f67 N (kk:=[(36,[(0,1),(0,2),(0,3)])])
def rG:AvM:=[(3,⟨[7],[([7],103,Tq1,Avj)],[],[(Avi,Avj)],[]⟩),(38,⟨[7,26,27,28],[([7],103,Tq1,Avi)],[],[(43776,Avi)],[]⟩)]
def vG:Lk:=⟨[],[(38,⟨[(7,.c (xo Avi)),(26,.i),(27,.i),(28,.c x64)],[(Avi,.arr 103 false Tq1)]⟩,[(0,⟨[(7,.c (xo Avj))],[(Avj,.arr 103 false Tq1)]⟩)])]⟩
def YK:=JP 224 [Ju] [.cell false (.sl 103 Tq1),Jt] (Ot N) [Pq N,qJ N,kQ N] rG vG f224 N
def lT:AvM:=[(3,⟨[6],[([6],103,Tq1,Avj)],[],[(Avi,Avj)],[]⟩),(34,⟨[6,23,24,25],[([6],103,Tq1,Avi)],[],[(48128,Avi)],[]⟩)]
def pY:Lk:=⟨[],[(34,⟨[(6,.c (xo Avi)),(23,.i),(24,.i),(25,.c x64)],[(Avi,.arr 103 false Tq1)]⟩,[(0,⟨[(6,.c (xo Avj))],[(Avj,.arr 103 false Tq1)]⟩)])]⟩
def qA:=JP 258 [Ju] [.cell false (.sl 103 Tq1),Jt] (OD N) [Pq N,kQ N] lT pY f258 N
open Go.Proofs Go.Proofs.Tryz
def Nh:=JP 10 [.cell false .ptr] [Sq5] (PV N) [] [] AvN f10 N (zz:=[(35,0,(VM N).S)]) (hZ:=⟨(VM N).h,trivial⟩)
open Go.Proofs Go.Proofs.Tryz
def fK:AvM:=[AvK 3 [],AvK 18 [9,10,11]]
def jD:Lk:=⟨[],[(18,⟨[(9,.i),(10,.i),(11,.c x64)],[]⟩,[(0,⟨[],[]⟩)])]⟩
def Td:=JP 129 [.cell false (.sl 154 Tq2)] [Jt] (KQ N) [mM N] fK jD f129 N
def uH:=J9 165 [.box [(false,.bool)],Sq6] [Ju] (fun a=>Ri N a.1 a.2) [YL N,LJ N,Md N] f165 N
def Ab4:=J9 225 [Sq9] [Ju,Jt] (Vz N) [XL N,qC N,Qc N] f225 N
def pU:=J9 25 [Aaz,Ju] [Ju,Jt] (fun a=>Nu N a.1 a.2) [Ua N,pR N,wH N] f25 N
def tY:=J9 166 [Ju,V7] [Jt] (fun a=>QY N a.1 a.2) [⟨69,O5 N,Rl N⟩,YK N] f166 N
def zV:AvM:=[AvK 46 [2,4,5,8,37,38,39]]
def Ab3:=JP 226 [Ju] [Sq9,Jt] (Vy N) [WV N,Pq N,XL N,qA N] zV AvN f226 (N+9)
def fU:AvM:=[(45,⟨[0,2,4,5],[],[(some Avr,0,Tq1)],[],[]⟩),AvK 73 [0,2,4,5],(105,⟨[0,2,4,5],[],[(some Avr,3,Au)],[],[]⟩)]
def jH:Lk:=⟨[(45,⟨[(0,.c AL),(2,.c AB),(4,.c AP),(5,.c AU)],[(0,.box [Bh]),(Avm,.box BO),(Av1,.JX 103 false Tq1),(33284,.JX 88 false Au),(Avn,.box BP),(33793,.JX 103 false Tq1),(33796,.JX 88 false Au),(Avr,.box [Be,AA,AO,(xo 34052)]),(34052,.JX 88 false Au)]⟩),(73,⟨[(0,.c AL),(2,.c AB),(4,.c AP),(5,.c AU)],[(0,.box [Bh]),(Avm,.box BO),(Av1,.JX 103 false Tq1),(33284,.JX 88 false Au),(Avn,.box BP),(33793,.JX 103 false Tq1),(33796,.JX 88 false Au),(Avr,.box [Be,x64,AO,(xo 34052)]),(34052,.JX 88 false Au)]⟩),(105,⟨[(0,.c AL),(2,.c AB),(4,.c AP),(5,.c AU)],[(0,.box [Bh]),(Avm,.box BO),(Av1,.JX 103 false Tq1),(33284,.JX 88 false Au),(Avn,.box BP),(33793,.JX 103 false Tq1),(33796,.JX 88 false Au),(Avr,.box [Be,x64,xb,Bj])]⟩)],[]⟩
def jI:=JP 259 [QW] [AsH,Jt] (Ru N) [Rn N,⟨69,O5 N,Rl N⟩,YK N,wX N,Px N] fU jH f259 N
open Go.Proofs Go.Proofs.Tryz
def Aa5:AvM:=[AvK 3 [1,10],AvK 130 [1,10,120,121,122]]
def AbR:Lk:=⟨[],[(130,⟨[(1,.c AX),(10,.c x64),(120,.i),(121,.i),(122,.c x64)],[(AvG,.box Bv)]⟩,[(0,⟨[(1,.c AX),(10,.c x64)],[(AvG,.box Bv)]⟩)])]⟩
def Xd:=JP 81 [Sq6] [Jt] (P5 N) [AdE N,tV N,dC N,Xe N,Za N,Td N,Ye N,fQ N] Aa5 AbR f81 N (dd:=[(127,uT N)]) (bb:=[15,19,20,24,28,29,34,39,40,45,46,51,52,56,57,61]) (hD:=⟨AbY N,trivial⟩)
def aC:=J9 168 [.box [(false,.bool)],Sq6] [Ju] (fun a=>NW N a.1 a.2) [Ab4 N,LJ N] f168 N
def dA:AvM:=[(3,⟨[5,6],[([6],9,Ar,Avp)],[],[(Avi,Avp)],[]⟩),(38,⟨[5,6,22,23,24],[([6],9,Ar,Avi)],[],[(54272,Avi)],[]⟩),(57,⟨[5,6,8,9,22,23,24],[([6],9,Ar,Avj)],[],[(Avi,Avj)],[]⟩),(65,⟨[5,6,8,9,22,23,24],[([6],9,Ar,Avk)],[],[(Avj,Avk)],[]⟩),(77,⟨[5,6,9,22,23,24],[([6],9,Ar,Avl)],[],[(Avk,Avl)],[]⟩)]
def fO:Lk:=⟨[(57,⟨[(5,.c Ba),(6,.c (xo Avj)),(8,.c AY),(9,.c (xo Av7)),(22,.i),(23,.i),(24,.i)],[(Av2,.box [Be,x64,xb,Bj]),(38144,.box [xb]),(Av7,.arr 9 false Ar),(Avj,.arr 9 false Ar)]⟩),(65,⟨[(5,.c Ba),(6,.c (xo Avk)),(8,.c AY),(9,.c (xo Av7)),(22,.i),(23,.i),(24,.i)],[(Av2,.box [Be,x64,xb,Bj]),(38144,.box [xb]),(Av7,.arr 9 false Ar),(Avk,.arr 9 false Ar)]⟩),(77,⟨[(5,.c Ba),(6,.c (xo Avl)),(9,.c (xo Av7)),(22,.i),(23,.i),(24,.i)],[(38144,.box [xb]),(Av7,.arr 9 false Ar),(Avl,.arr 9 false Ar)]⟩)],[(38,⟨[(5,.c Ba),(6,.c (xo Avi)),(22,.i),(23,.i),(24,.c x64)],[(38144,.box [xb]),(Avi,.arr 9 false Ar)]⟩,[(0,⟨[(5,.c Ba),(6,.c (xo Avp))],[(38144,.box [xb]),(Avp,.arr 9 false Ar)]⟩)])]⟩
def VG:=JP 228 [.cell false (.sl 154 Tq2)] [Ju,Jt] (OT N) [Td N,YL N,LJ N,Ll N,fA N,Yj N,Md N,⟨65,TK N,Rx N⟩] dA fO f228 N
def aB:=J9 169 [Ju,V7] [Jt] (fun a=>NV N a.1 a.2) [Ab3 N] f169 N
def cZ:AvM:=[(3,⟨[6],[([6],154,Tq2,Avj)],[],[(Avi,Avj)],[]⟩),(30,⟨[4,6],[([6],154,Tq2,Avi)],[],[(44032,Avi)],[]⟩)]
def fM:Lk:=⟨[],[(30,⟨[(4,.c (.c (.ptr 36096 0))),(6,.c (xo Avi))],[(36096,.box [Bh]),(Avi,.arr 154 false Tq2)]⟩,[(0,⟨[(6,.c (xo Avj))],[(Avj,.arr 154 false Tq2)]⟩)])]⟩
def VF:=JP 229 [Ju] [.cell false (.sl 154 Tq2),Jt] (OQ N) [QL N,jI N,Td N] cZ fM f229 N (aa:=[(27,TJ N),(253,PR N)]) (hA:=⟨UD N,Tq N,trivial⟩)
open Go.Proofs Go.Proofs.Tryz
def dR:=J9 34 [sK] [Jt] (RF N) [Uc N,Vs N,Xd N] f34 N
def rF:=J9 177 [.box [(false,.bool)],Sq6] [Ju] (fun a=>QJ N a.1 a.2) [VG N,LJ N] f177 N
def jQ:=J9 180 [.box [(false,.bool)],Sq6] [Ju] (fun a=>PL N a.1 a.2) [VG N,LJ N] f180 N
def qX:=J9 178 [Ju,V7] [Jt] (fun a=>QH N a.1 a.2) [VF N] f178 N
def jK:=J9 181 [Ju,V7] [Jt] (fun a=>PG N a.1 a.2) [VF N] f181 N
open Go.Proofs Go.Proofs.Tryz
def AeR (N n:Nat):Sig:=.of [.box [(false,.bool)],Sq6] [.cell false .str] (AdO N n)
def AkI (N:Nat):VP Tryz.prog (AeR N):=Yi (Js:=[.box [(false,.bool)],Sq6]) (J7:=[.cell false .str]) (l:=[(144,fun a=>Rh N a.1 a.2),(147,fun a=>Rj N a.1 a.2),(150,fun a=>PO N a.1 a.2),(153,fun a=>PN N a.1 a.2),(156,fun a=>PM N a.1 a.2),(159,fun a=>QI N a.1 a.2),(162,fun a=>Qg N a.1 a.2),(165,fun a=>Ri N a.1 a.2),(168,fun a=>NW N a.1 a.2),(171,fun a=>Qh N a.1 a.2),(174,fun a=>OX N a.1 a.2),(177,fun a=>QJ N a.1 a.2),(180,fun a=>PL N a.1 a.2)]) ⟨(uG N).h,(uI N).h,(jW N).h,(jU N).h,(jS N).h,(rE N).h,(mV N).h,(uH N).h,(aC N).h,(mX N).h,(gB N).h,(rF N).h,(jQ N).h,trivial⟩
def AeS (N n:Nat):Sig:=.of [.cell false .str,V7] [.cell false (.int .i64)] (kG N n)
def AkJ (N:Nat):VP Tryz.prog (AeS N):=Yi (Js:=[.cell false .str,V7]) (J7:=[.cell false (.int .i64)]) (l:=[(145,fun a=>QX N a.1 a.2),(148,fun a=>QZ N a.1 a.2),(151,fun a=>PK N a.1 a.2),(154,fun a=>PI N a.1 a.2),(157,fun a=>PH N a.1 a.2),(160,fun a=>QG N a.1 a.2),(163,fun a=>Qd N a.1 a.2),(166,fun a=>QY N a.1 a.2),(169,fun a=>NV N a.1 a.2),(172,fun a=>Qe N a.1 a.2),(175,fun a=>OW N a.1 a.2),(178,fun a=>QH N a.1 a.2),(181,fun a=>PG N a.1 a.2)]) ⟨(tX N).h,(tZ N).h,(jP N).h,(jM N).h,(jL N).h,(qW N).h,(mO N).h,(tY N).h,(aB N).h,(mQ N).h,(fV N).h,(qX N).h,(jK N).h,trivial⟩
open Go.Proofs Go.Proofs.Tryz
def zA:AvM:=[(3,⟨[1,5,6],[([6],108,Tq3,Avj)],[],[(Avi,Avj)],[]⟩),(30,⟨[1,5,6,16,17,18],[([6],108,Tq3,Avi)],[],[(44032,Avi)],[]⟩)]
def Aa8:Lk:=⟨[],[(30,⟨[(1,.c AX),(5,.c (.c (.ptr 36608 0))),(6,.c (xo Avi)),(16,.i),(17,.i),(18,.c x64)],[(AvG,.box Bv),(36608,.box [xb]),(Avi,.arr 108 false Tq3)]⟩,[(0,⟨[(1,.c AX),(5,.c (.c (.ptr 36608 0))),(6,.c (xo Avj))],[(AvG,.box Bv),(36608,.box [xb]),(Avj,.arr 108 false Tq3)]⟩)])]⟩
def Aa9:=JP 57 [Sq6] [.cell false (.sl 108 Tq3),Jt] (Tf N) [Xd N,Ye N,⟨65,TK N,Rx N⟩] zA Aa8 f57 N (dd:=[(23,uT N),(38,AeR N)]) (hD:=⟨AbY N,AkI N,trivial⟩)
def AbT:AvM:=[AvK 3 [0,5],AvK 18 [0,5,15,16,17]]
def AdF:Lk:=⟨[],[(18,⟨[(0,.c AL),(5,.c AU),(15,.i),(16,.i),(17,.c x64)],[(0,.box BH),(5,.arr 9 true Ar),(6,.arr 9 true Ar),(7,.arr 152 true (.str Ar)),(19,.arr 108 true Tq3),(Avr,.box [xs,xb,xs])]⟩,[(0,⟨[(0,.c AL),(5,.c AU)],[(0,.box BH),(5,.arr 9 true Ar),(6,.arr 9 true Ar),(7,.arr 152 true (.str Ar)),(19,.arr 108 true Tq3),(Avr,.box [xs,xb,xs])]⟩)])]⟩
def AdG:=JP 198 [V7,.cell false (.sl 108 Tq3),AoN] [Jt] (fun a=>Oa N a.1 a.2.1 a.2.2) [⟨184,SH N,QV N⟩,jJ N,⟨185,Y7 N,Yw N⟩] AbT AdF f198 N (dd:=[(66,AeS N)]) (bb:=[51,55,56,60,63,64]) (hD:=⟨AkJ N,trivial⟩)
open Go.Proofs Go.Proofs.Tryz
def AbU:AvM:=[AvK 45 [1,5,6]]
def AdH:Lk:=⟨[(45,⟨[(1,.c AX),(5,.c (.c (.ptr 36864 0))),(6,.c xs)],[(AvG,.box BF),(36864,.box [xb])]⟩)],[]⟩
def jX:=JP 24 [sK] [Ju,Jt] (Rk N) [dR N,Aa9 N,LJ N,AgW N,Ll N,Wq N,kJ N,AaX N,Md N,⟨65,TK N,Rx N⟩] AbU AdH f24 N
def yZ:AvM:=[(3,⟨[2,4],[],[],[(36101,Avz),(36102,Avy),(36103,Avq),(36115,Avj),(Avi,Avj),(Avv,Avq),(Avw,Avy),(Avx,Avz)],[]⟩),(22,⟨[0,2,4,14,15,16],[],[],[(33797,Avx),(33798,Avw),(33799,Avv),(33811,Avi),(36101,Avx),(36102,Avw),(36103,Avv),(36115,Avi)],[]⟩)]
def Aa6:Lk:=⟨[],[(22,⟨[(0,.i),(2,.c AB),(4,.c AP),(14,.i),(15,.i),(16,.c x64)],[(Avm,.box Bq),(33285,.JX 9 false Ar),(33286,.JX 9 false Ar),(33287,.JX 152 false (.str Ar)),(33291,.JX 103 false Tq1),(33293,.JX 103 false Tq1),(33294,.JX 103 false Tq1),(33297,.JX 154 false Tq2),(33298,.JX 154 false Tq2),(33299,.JX 108 false Tq3),(Avn,.box BA),(Avi,.arr 108 true Tq3),(Avv,.arr 152 true (.str Ar)),(Avw,.arr 9 true Ar),(Avx,.arr 9 true Ar)]⟩,[(0,⟨[(2,.c AB),(4,.c AP)],[(Avm,.box Bq),(33285,.JX 9 false Ar),(33286,.JX 9 false Ar),(33287,.JX 152 false (.str Ar)),(33291,.JX 103 false Tq1),(33293,.JX 103 false Tq1),(33294,.JX 103 false Tq1),(33297,.JX 154 false Tq2),(33298,.JX 154 false Tq2),(33299,.JX 108 false Tq3),(Avn,.box [xb,xb,x64,x64,(xo Avz),(xo Avy),(xo Avq),x64,x64,x64,Be,xb,Be,Be,xs,xs,Bf,Bf,(xo Avj)]),(Avj,.arr 108 true Tq3),(Avq,.arr 152 true (.str Ar)),(Avy,.arr 9 true Ar),(Avz,.arr 9 true Ar)]⟩)])]⟩
def Aa7:=JP 120 [.cell false (.sl 108 Tq3)] [Sq6,Jt] (QR N) [jE N,AdG N,Xd N] yZ Aa6 f120 N
open Go.Proofs Go.Proofs.Tryz
def dQ:=J9 8 [sK,Aaz] [Ju,Jt] (fun a=>Q9 N a.1 a.2) [Us N,jX N,pU N,AdI N] f8 N
def Yf (N:Nat):WY Tryz.prog 75 true (.of [fG,QW] [.cell false (.int .i64)] (fun a=>MR N a.1 a.2)):=Qq (C:=ctx Tryz.prog (ksp [Rn N,AgU N,Aa7 N]) []) (L:=⟨[],[]⟩) (fn:=f75) (N:=N) (MG (NM _)) (by kernel_rfl) (by kernel_rfl) (fun a=>by kernel_rfl)
def SN:=JP 8 [sK,.cell false .ptr] [Ju,Jt] (fun a=>NL N a.1 a.2) [jX N] [] AvN f8 N (zz:=[(10,0,(Nh N).S)]) (hZ:=⟨(Nh N).h,trivial⟩)
open Go.Proofs Go.Proofs.Tryz
def aI:Sig:=.of [fG,QW] [Jt] (fun a=>Ve N a.1 a.2)
def AaK (N:Nat):iW Tryz.prog 29 [(72,true),(73,true),(74,true),(75,true),(33,false)] (aI N):=AjO (k0:=[(false,.str),(false,.str),(false,(.sl 88 (.sl 90 Tq0 .nil))),(false,(.int .i64)),(false,.str),(false,.str),(false,.bool),(false,.bool),(false,(.int .i64)),(false,(.int .i64)),(false,(.sl 9 (.str .nil))),(false,(.sl 9 (.str .nil))),(false,(.sl 152 (.str (.str .nil)))),(false,(.int .i64)),(false,(.int .i64)),(false,(.int .i64)),(false,(.sl 103 Tq1)),(false,.bool),(false,(.sl 103 Tq1)),(false,(.sl 103 Tq1)),(false,.str),(false,.str),(false,(.sl 154 Tq2)),(false,(.sl 154 Tq2)),(false,(.sl 108 Tq3)),(false,.str)]) (k1:=[(false,(.sl 129 Tq5))]) (fun a=>by kernel_rfl) [((72,true),fun a=>NF N a.1 a.2),((73,true),fun a=>ND N a.1 a.2),((74,true),fun a=>PQ N a.1 a.2),((75,true),fun a=>MR N a.1 a.2),((33,false),fun a=>QK N a.1 a.2)] ⟨Z4 N,Zz N,jY N,Yf N,XN N,trivial⟩
open Go.Proofs Go.Proofs.Tryz
def gK (N:Nat):WY Tryz.prog 30 true (.of [fG,QW] [.cell false (.int .i64)] (fun a=>OY N a.1 a.2)):=Qq (C:=ctx Tryz.prog (ksp [MX N]) [] (aa:=[(70,Tm N)]) (ee:=[((29,[(72,true),(73,true),(74,true),(75,true),(33,false)]),aI N)])) (L:=⟨[],[]⟩) (fn:=f30) (N:=N) (MG (NM _) (hA:=⟨Wp N,trivial⟩) (hE:=⟨AaK N,trivial⟩)) (by kernel_rfl) (by kernel_rfl) (fun a=>by kernel_rfl)
open Go.Proofs Go.Proofs.Tryz
def aH:Sig:=.of [fG,QW] [Jt] (fun a=>Vd N a.1 a.2)
def AaJ (N:Nat):iW Tryz.prog 29 [(30,true),(31,true),(32,true),(33,false)] (aH N):=AjO (k0:=[(false,.str),(false,.str),(false,(.sl 88 (.sl 90 Tq0 .nil))),(false,(.int .i64)),(false,.str),(false,.str),(false,.bool),(false,.bool),(false,(.int .i64)),(false,(.int .i64)),(false,(.sl 9 (.str .nil))),(false,(.sl 9 (.str .nil))),(false,(.sl 152 (.str (.str .nil)))),(false,(.int .i64)),(false,(.int .i64)),(false,(.int .i64)),(false,(.sl 103 Tq1)),(false,.bool),(false,(.sl 103 Tq1)),(false,(.sl 103 Tq1)),(false,.str),(false,.str),(false,(.sl 154 Tq2)),(false,(.sl 154 Tq2)),(false,(.sl 108 Tq3)),(false,.str)]) (k1:=[(false,(.sl 129 Tq5))]) (fun a=>by kernel_rfl) [((30,true),fun a=>OY N a.1 a.2),((31,true),fun a=>Na N a.1 a.2),((32,true),fun a=>Nb N a.1 a.2),((33,false),fun a=>QK N a.1 a.2)] ⟨gK N,YF N,YH N,XN N,trivial⟩
open Go.Proofs Go.Proofs.Tryz
def aF:=JP 9 [Ju] [sK,Jt] (Nz N) [jE N,dR N] [] AvN f9 N (aa:=[(27,TJ N)]) (hA:=⟨UD N,trivial⟩) (ee:=[((29,[(30,true),(31,true),(32,true),(33,false)]),aH N)]) (hE:=⟨AaJ N,trivial⟩)
open Go.Proofs Go.Proofs.Tryz
def Af7:=JP 13 [] [JV] (fun _=>SE N) [Y3 N,AcD N,YO N,dQ N,aF N,Us N,aG N] [] AvN f13 N (aa:=[(6,XH N)]) (bb:=[32,35,36,42,43,47,48,52]) (ss:=[(6,7,36,[37,38,39,40,41])]) (hA:=⟨lN N,trivial⟩) (zz:=[(8,1,(SN N).S),(10,0,(Nh N).S)]) (hZ:=⟨(SN N).h,(Nh N).h,trivial⟩)
open Go.Proofs Go.Proofs.Tryz
def PT:Sig:=.of [.cell false (.int .u8),.cell false (.int .u8),Ag5] [JV] (fun a=>QM N a.1 a.2.1 a.2.2)
def gZ:iY 3 (PT N):=yH (yD (ksp [AcD N,YO N,Y3 N,dQ N,aF N,Us N,Ajd N,AfP N,Af7 N,WA N,Aby N,aG N,ZG N]) [] (aa:=[(6,XH N)]) (bb:=[59,62,63,66,67,73,74,80,81,87,88,93,94,98,99,105,106,109]) (zz:=[(8,1,(SN N).S),(10,0,(Nh N).S)])) AvN f3 N (MG (NM _) (hA:=⟨lN N,trivial⟩) (hZ:=⟨(SN N).h,(Nh N).h,trivial⟩))
end
end Go.Proofs.YtbgjmioccbacdaaGreatDoor.Vm
