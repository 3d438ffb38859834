import Derived.Test.YtadefjgbcapakaaGreatDoorA16
set_option linter.all false
namespace Go.Proofs.YtadefjgbcapakaaGreatDoor.Vm
noncomputable section
open Go.Proofs
def yL:List (Nat×Nrm):=[(3,⟨[],[],[],[],[]⟩),(18,⟨[11,12,13],[],[],[],[]⟩)]
def Abp:Lk:=⟨[],[(18,⟨[(11,.i),(12,.i),(13,.c x64)],[]⟩,[(0,⟨[],[]⟩)])]⟩
def JH (N:Nat):Sig:=.of [Sq0] [.cell false (.int .i64)] (fun a=>Gh N a)
theorem Jw (N:Nat):Spec Tryz.prog 167 (JH N):=Ad (C:=ctx Tryz.prog [(218,NP N)] yL) (L:=Abp) (fn:=Tryz.f167) (N:=N) (Ag ⟨TS N,trivial⟩)
def VV:List (Nat×Nrm):=[(3,⟨[6],[],[],[(261,1004096),(1000000,1004096)],[]⟩),(10,⟨[1,5,6],[],[],[(261,1000000),(40960,1000000)],[]⟩)]
def Xl:Lk:=⟨[],[(10,⟨[(1,.c (.c (.ptr 256 0))),(5,.c (.c (.ptr 35328 0))),(6,.c x64)],[(256,.box [xb,xb,x64,x64,(xo 1000000),(xo 262),(xo 263),x64,x64,x64,(xl Tq1),xb,(xl Tq1),(xl Tq1),xs,xs,(xl Tq2),(xl Tq2),(xo 275)]),(262,.arr 9 true (.str .nil)),(263,.arr 74 true (.str (.str .nil))),(275,.arr 60 true Tq3),(35328,.box [(xl Tq6)]),(1000000,.arr 9 true (.str .nil))]⟩,[(0,⟨[(6,.c x64)],[(256,.box [xb,xb,x64,x64,(xo 1004096),(xo 262),(xo 263),x64,x64,x64,(xl Tq1),xb,(xl Tq1),(xl Tq1),xs,xs,(xl Tq2),(xl Tq2),(xo 275)]),(262,.arr 9 true (.str .nil)),(263,.arr 74 true (.str (.str .nil))),(275,.arr 60 true Tq3),(1004096,.arr 9 true (.str .nil))]⟩)])]⟩
def Xn (N:Nat):Sig:=.of [.cell false .str,MB] [.cell false (.int .i64)] (fun a=>DN N a.1 a.2)
theorem TE (N:Nat):Spec Tryz.prog 118 (Xn N):=Ad (C:=ctx Tryz.prog [(85,F5 N),(195,Kw N)] VV [(194,GY N)]) (L:=Xl) (fn:=Tryz.f118) (N:=N+1) (Ag ⟨Fb N,KP N,trivial⟩ ⟨Js N,trivial⟩)
def ZK:List (Nat×Nrm):=[(3,⟨[],[],[],[(517,1012336),(518,1012320),(519,1012304),(531,1012288),(1000000,1012288),(1000016,1012304),(1000032,1012320),(1000048,1012336)],[]⟩),(11,⟨[1,2,7,9,11],[([11],9,(.str .nil),1008192)],[],[(517,1008256),(518,1008240),(519,1008224),(531,1008208),(1004096,1008192),(1004112,1008208),(1004128,1008224),(1004144,1008240),(1004160,1008256)],[]⟩),(18,⟨[1,2,7],[],[],[(517,1000048),(518,1000032),(519,1000016),(531,1000000),(617,1000048),(618,1000032),(619,1000016),(631,1000000)],[]⟩),(38,⟨[1,2,7,9,11],[([11],9,(.str .nil),1004096)],[],[(517,1004160),(518,1004144),(519,1004128),(531,1004112),(45312,1004096),(1000000,1004112),(1000016,1004128),(1000032,1004144),(1000048,1004160)],[]⟩)]
def bQ:Lk:=⟨[],[(18,⟨[(1,.i),(2,.c (.c (.clo 198 512))),(7,.c (.c (.ptr 37120 0)))],[(512,.box [xb,xb,x64,x64,(xo 1000048),(xo 1000032),(xo 1000016),x64,x64,x64,(xl Tq1),xb,(xl Tq1),(xl Tq1),xs,xs,(xl Tq2),(xl Tq2),(xo 1000000)]),(37120,.box [(xl Tq6)]),(1000000,.arr 60 true Tq3),(1000016,.arr 74 true (.str (.str .nil))),(1000032,.arr 9 true (.str .nil)),(1000048,.arr 9 true (.str .nil))]⟩,[(0,⟨[],[(512,.box [xb,xb,x64,x64,(xo 1012336),(xo 1012320),(xo 1012304),x64,x64,x64,(xl Tq1),xb,(xl Tq1),(xl Tq1),xs,xs,(xl Tq2),(xl Tq2),(xo 1012288)]),(1012288,.arr 60 true Tq3),(1012304,.arr 74 true (.str (.str .nil))),(1012320,.arr 9 true (.str .nil)),(1012336,.arr 9 true (.str .nil))]⟩)]),(38,⟨[(1,.i),(2,.c (.c (.clo 198 512))),(7,.c (.c (.ptr 37120 0))),(9,.c (.c (.ptr 39936 0))),(11,.c (xo 1004096))],[(512,.box [xb,xb,x64,x64,(xo 1004160),(xo 1004144),(xo 1004128),x64,x64,x64,(xl Tq1),xb,(xl Tq1),(xl Tq1),xs,xs,(xl Tq2),(xl Tq2),(xo 1004112)]),(37120,.box [(xl Tq6)]),(39936,.box [(xl Tq6)]),(1004096,.arr 9 false (.str .nil)),(1004112,.arr 60 true Tq3),(1004128,.arr 74 true (.str (.str .nil))),(1004144,.arr 9 true (.str .nil)),(1004160,.arr 9 true (.str .nil))]⟩,[(2,⟨[(1,.i),(2,.c (.c (.clo 198 512))),(7,.c (.c (.ptr 37120 0))),(9,.c (.c (.ptr 39936 0))),(11,.c (xo 1008192))],[(512,.box [xb,xb,x64,x64,(xo 1008256),(xo 1008240),(xo 1008224),x64,x64,x64,(xl Tq1),xb,(xl Tq1),(xl Tq1),xs,xs,(xl Tq2),(xl Tq2),(xo 1008208)]),(37120,.box [(xl Tq6)]),(39936,.box [(xl Tq6)]),(1008192,.arr 9 false (.str .nil)),(1008208,.arr 60 true Tq3),(1008224,.arr 74 true (.str (.str .nil))),(1008240,.arr 9 true (.str .nil)),(1008256,.arr 9 true (.str .nil))]⟩)])]⟩
def Q8 (N:Nat):Sig:=.of [.cell false .str,.cell false (.int .i64),ApG] [.cell false (.int .i64)] (fun a=>Jq N a.1 a.2.1 a.2.2)
theorem Xp (N:Nat):Spec Tryz.prog 196 (Q8 N):=Ad (C:=ctx Tryz.prog [(85,F5 N),(195,Kw N),(176,Ei N)] ZK [(194,GY N),(86,FH N)] [(55,AcF N)]) (L:=bQ) (fn:=Tryz.f196) (N:=N+1) (Ag ⟨Fb N,KP N,Eb N,trivial⟩ ⟨Js N,Ja N,trivial⟩ ⟨Ait N,trivial⟩)
end
noncomputable section
def JK (N:Nat):Sig:=.of [Sq4,.cell false .bool] [.cell false (.int .i64)] (fun a=>GR N a.1 a.2)
theorem Jy (N:Nat):Spec Tryz.prog 157 (JK N):=Ad (C:=ctx Tryz.prog [(205,tJ N),(167,JH N),(206,QE N)] []) (L:=⟨[],[]⟩) (fn:=Tryz.f157) (N:=N) (Ag ⟨Abu N,Jw N,XG N,trivial⟩)
def sK:List (Nat×Nrm):=[(3,⟨[5],[([5],9,(.str .nil),1012288)],[],[(1000000,1012288)],[]⟩),(11,⟨[5,8,21,22,23],[([8],9,(.str .nil),1008192),([5],9,(.str .nil),1008208)],[],[(1004096,1008192),(1004112,1008208)],[]⟩),(26,⟨[5,21,22,23],[([5],9,(.str .nil),1000000)],[],[(47872,1000000)],[]⟩),(42,⟨[5,8,21,22,23,27,28,29],[([8],9,(.str .nil),1004096),([5],9,(.str .nil),1004112)],[],[(44032,1004096),(1000000,1004112)],[]⟩)]
def yO:Lk:=⟨[],[(26,⟨[(5,.c (xo 1000000)),(21,.i),(22,.i),(23,.c x64)],[(1000000,.arr 9 false (.str .nil))]⟩,[(0,⟨[(5,.c (xo 1012288))],[(1012288,.arr 9 false (.str .nil))]⟩)]),(42,⟨[(5,.c (xo 1004112)),(8,.c (xo 1004096)),(21,.i),(22,.i),(23,.i),(27,.i),(28,.i),(29,.c x64)],[(1004096,.arr 9 false (.str .nil)),(1004112,.arr 9 false (.str .nil))]⟩,[(2,⟨[(5,.c (xo 1008208)),(8,.c (xo 1008192)),(21,.i),(22,.i),(23,.i)],[(1008192,.arr 9 false (.str .nil)),(1008208,.arr 9 false (.str .nil))]⟩)])]⟩
def XC (N:Nat):Sig:=.of [Sq0] [.cell false .str,.cell false (.int .i64)] (fun a=>Ox N a)
theorem kF (N:Nat):Spec Tryz.prog 166 (XC N):=Ad (C:=ctx Tryz.prog [(167,JH N),(216,Me N),(217,WN N),(164,JA N)] sK) (L:=yO) (fn:=Tryz.f166) (N:=N) (Ag ⟨Jw N,QW N,Aav N,Ii N,trivial⟩)
def sH:List (Nat×Nrm):=[(3,⟨[2,4,8],[],[],[(34817,1004096),(1000000,1004096)],[]⟩),(50,⟨[2,4,8,37,38,39],[],[],[(34817,1000000),(47104,1000000)],[]⟩)]
def yM:Lk:=⟨[],[(50,⟨[(2,.c (.c (.ptr 33280 0))),(4,.c (.c (.ptr 33792 0))),(8,.c (.c (.ptr 34816 0))),(37,.i),(38,.i),(39,.c x64)],[(33280,.box [(xo 33281)]),(33281,.Bg 175 false (.sl 177 Tq0 .nil)),(33792,.box [(xo 33793)]),(33793,.Bg 175 false (.sl 177 Tq0 .nil)),(34816,.box [(xo 1000000)]),(1000000,.arr 175 false (.sl 177 Tq0 .nil))]⟩,[(0,⟨[(2,.c (.c (.ptr 33280 0))),(4,.c (.c (.ptr 33792 0))),(8,.c (.c (.ptr 34816 0)))],[(33280,.box [(xo 33281)]),(33281,.Bg 175 false (.sl 177 Tq0 .nil)),(33792,.box [(xo 33793)]),(33793,.Bg 175 false (.sl 177 Tq0 .nil)),(34816,.box [(xo 1004096)]),(1004096,.arr 175 false (.sl 177 Tq0 .nil))]⟩)])]⟩
def XB (N:Nat):Sig:=.of [.cell false .str] [Sq0,.cell false (.int .i64)] (fun a=>Ov N a)
theorem kE (N:Nat):Spec Tryz.prog 263 (XB N):=Ad (C:=ctx Tryz.prog [(207,QO N),(220,I4 N),(289,ML N),(167,JH N)] sH) (L:=yM) (fn:=Tryz.f263) (N:=N) (Ag ⟨Pv N,G6 N,RZ N,Jw N,trivial⟩)
def Xk (N:Nat):Sig:=.of [.cell false .str,MB] [.cell false (.int .i64)] (fun a=>DL N a.1 a.2)
theorem TD (N:Nat):Spec Tryz.prog 121 (Xk N):=Ad (C:=ctx Tryz.prog [(196,Q8 N)] []) (L:=⟨[],[]⟩) (fn:=Tryz.f121) (N:=N) (Ag ⟨Xp N,trivial⟩)
end
noncomputable section
def WY:List (Nat×Nrm):=[(3,⟨[],[],[],[],[]⟩),(10,⟨[6,7,8],[],[],[],[]⟩)]
def Yn:Lk:=⟨[],[(10,⟨[(6,.i),(7,.i),(8,.c x64)],[]⟩,[(0,⟨[],[]⟩)])]⟩
def Jp (N:Nat):Sig:=.of [.cell false (.sl 80 Tq1)] [.cell false (.int .i64)] (fun a=>Gl N a)
theorem Mc (N:Nat):Spec Tryz.prog 56 (Jp N):=Ad (C:=ctx Tryz.prog [(157,JK N)] WY) (L:=Yn) (fn:=Tryz.f56) (N:=N) (Ag ⟨Jy N,trivial⟩)
def qN:List (Nat×Nrm):=[(3,⟨[],[],[],[],[]⟩),(11,⟨[32,33,34],[],[],[],[]⟩),(26,⟨[32,33,34],[],[],[],[]⟩),(38,⟨[32,33,34,38,39,40],[],[],[],[]⟩)]
def wS:Lk:=⟨[],[(26,⟨[(32,.c (xo 40960)),(33,.i),(34,.c x64)],[(40960,.arr 24 false (.sl 80 Tq1 .nil))]⟩,[(0,⟨[],[]⟩)]),(38,⟨[(32,.c (xo 40960)),(33,.i),(34,.i),(38,.i),(39,.i),(40,.c x64)],[(40960,.arr 24 false (.sl 80 Tq1 .nil))]⟩,[(2,⟨[(32,.c (xo 40960)),(33,.i),(34,.i)],[(40960,.arr 24 false (.sl 80 Tq1 .nil))]⟩)])]⟩
def KF (N:Nat):Sig:=.of [Sq7] [.cell false (.int .i64)] (fun a=>Du N a)
theorem Lm (N:Nat):Spec Tryz.prog 158 (KF N):=Ad (C:=ctx Tryz.prog [(157,JK N)] qN) (L:=wS) (fn:=Tryz.f158) (N:=N) (Ag ⟨Jy N,trivial⟩)
def LJ (N:Nat):Sig:=.of [Sq4,.cell false .bool] [.cell false .str,.cell false (.int .i64)] (fun a=>Gq N a.1 a.2)
theorem MG (N:Nat):Spec Tryz.prog 74 (LJ N):=Ad (C:=ctx Tryz.prog [(157,JK N),(164,JA N),(166,XC N)] []) (L:=⟨[],[]⟩) (fn:=Tryz.f74) (N:=N) (Ag ⟨Jy N,Ii N,kF N,trivial⟩)
def tH:List (Nat×Nrm):=[(29,⟨[1,2,4,6,11,13],[],[],[],[]⟩),(53,⟨[1,4,6],[],[(some 34304,2,(.sl 177 Tq0 .nil))],[],[]⟩)]
def zB:Lk:=⟨[(29,⟨[(1,.i),(2,.c (.c (.ptr 33280 0))),(4,.c (.c (.ptr 33792 0))),(6,.c (.c (.ptr 34304 0))),(11,.i),(13,.c xb)],[(33280,.box [x64,xs,xs]),(33792,.box [(.c (.int .i64 0)),(.c (.str ([]:Bs))),(xo 33795)]),(33795,.Bg 175 false (.sl 177 Tq0 .nil)),(34304,.box [(.c (.int .i64 0)),(.c (.str ([]:Bs))),(xo 34307)]),(34307,.Bg 175 false (.sl 177 Tq0 .nil))]⟩),(53,⟨[(1,.i),(4,.c (.c (.ptr 33792 0))),(6,.c (.c (.ptr 34304 0)))],[(33792,.box [(.c (.int .i64 0)),(.c (.str ([]:Bs))),(xo 33795)]),(33795,.Bg 175 false (.sl 177 Tq0 .nil)),(34304,.box [x64,xs,(xl (.sl 177 Tq0 .nil))])]⟩)],[]⟩
def PW (N:Nat):Sig:=.of [Sq9,.cell false .bool] [Sq4,.cell false (.int .i64)] (fun a=>Je N a.1 a.2)
theorem RD (N:Nat):Spec Tryz.prog 222 (PW N):=Ad (C:=ctx Tryz.prog [(263,XB N),(157,JK N)] tH) (L:=zB) (fn:=Tryz.f222) (N:=N) (Ag ⟨kE N,Jy N,trivial⟩)
end
noncomputable section
def ZL:List (Nat×Nrm):=[(3,⟨[],[],[],[(517,1012336),(518,1012320),(519,1012304),(531,1012288),(1000000,1012288),(1000016,1012304),(1000032,1012320),(1000048,1012336)],[]⟩),(11,⟨[1,2,7,9,11],[([11],9,(.str .nil),1008192)],[],[(517,1008256),(518,1008240),(519,1008224),(531,1008208),(1004096,1008192),(1004112,1008208),(1004128,1008224),(1004144,1008240),(1004160,1008256)],[]⟩),(18,⟨[1,2,7],[],[],[(517,1000048),(518,1000032),(519,1000016),(531,1000000),(617,1000048),(618,1000032),(619,1000016),(631,1000000)],[]⟩),(38,⟨[1,2,7,9,11],[([11],9,(.str .nil),1004096)],[],[(517,1004160),(518,1004144),(519,1004128),(531,1004112),(45312,1004096),(1000000,1004112),(1000016,1004128),(1000032,1004144),(1000048,1004160)],[]⟩)]
def bU:Lk:=⟨[],[(18,⟨[(1,.i),(2,.c (.c (.clo 199 512))),(7,.c (.c (.ptr 37120 0)))],[(512,.box [xb,xb,x64,x64,(xo 1000048),(xo 1000032),(xo 1000016),x64,x64,x64,(xl Tq1),xb,(xl Tq1),(xl Tq1),xs,xs,(xl Tq2),(xl Tq2),(xo 1000000)]),(37120,.box [(xl Tq6)]),(1000000,.arr 60 true Tq3),(1000016,.arr 74 true (.str (.str .nil))),(1000032,.arr 9 true (.str .nil)),(1000048,.arr 9 true (.str .nil))]⟩,[(0,⟨[],[(512,.box [xb,xb,x64,x64,(xo 1012336),(xo 1012320),(xo 1012304),x64,x64,x64,(xl Tq1),xb,(xl Tq1),(xl Tq1),xs,xs,(xl Tq2),(xl Tq2),(xo 1012288)]),(1012288,.arr 60 true Tq3),(1012304,.arr 74 true (.str (.str .nil))),(1012320,.arr 9 true (.str .nil)),(1012336,.arr 9 true (.str .nil))]⟩)]),(38,⟨[(1,.i),(2,.c (.c (.clo 199 512))),(7,.c (.c (.ptr 37120 0))),(9,.c (.c (.ptr 39936 0))),(11,.c (xo 1004096))],[(512,.box [xb,xb,x64,x64,(xo 1004160),(xo 1004144),(xo 1004128),x64,x64,x64,(xl Tq1),xb,(xl Tq1),(xl Tq1),xs,xs,(xl Tq2),(xl Tq2),(xo 1004112)]),(37120,.box [(xl Tq6)]),(39936,.box [(xl Tq6)]),(1004096,.arr 9 false (.str .nil)),(1004112,.arr 60 true Tq3),(1004128,.arr 74 true (.str (.str .nil))),(1004144,.arr 9 true (.str .nil)),(1004160,.arr 9 true (.str .nil))]⟩,[(2,⟨[(1,.i),(2,.c (.c (.clo 199 512))),(7,.c (.c (.ptr 37120 0))),(9,.c (.c (.ptr 39936 0))),(11,.c (xo 1008192))],[(512,.box [xb,xb,x64,x64,(xo 1008256),(xo 1008240),(xo 1008224),x64,x64,x64,(xl Tq1),xb,(xl Tq1),(xl Tq1),xs,xs,(xl Tq2),(xl Tq2),(xo 1008208)]),(37120,.box [(xl Tq6)]),(39936,.box [(xl Tq6)]),(1008192,.arr 9 false (.str .nil)),(1008208,.arr 60 true Tq3),(1008224,.arr 74 true (.str (.str .nil))),(1008240,.arr 9 true (.str .nil)),(1008256,.arr 9 true (.str .nil))]⟩)])]⟩
def Q9 (N:Nat):Sig:=.of [.cell false .str,.cell false (.int .i64),ApH] [.cell false (.int .i64)] (fun a=>Jr N a.1 a.2.1 a.2.2)
theorem Xq (N:Nat):Spec Tryz.prog 196 (Q9 N):=Ad (C:=ctx Tryz.prog [(85,F5 N),(195,Kw N),(176,Ei N)] ZL [(194,GY N),(86,FH N)] [(55,AcG N)]) (L:=bU) (fn:=Tryz.f196) (N:=N+1) (Ag ⟨Fb N,KP N,Eb N,trivial⟩ ⟨Js N,Ja N,trivial⟩ ⟨Aiv N,trivial⟩)
def Yu:List (Nat×Nrm):=[(22,⟨[5,25,26,27],[],[],[],[]⟩)]
def ZH (N:Nat):Sig:=.of [.cell false .str,MB] [.cell false (.int .i64)] (fun a=>Eh N a.1 a.2)
theorem VT (N:Nat):Spec Tryz.prog 127 (ZH N):=Ad (C:=ctx Tryz.prog [(173,Hm N),(192,Jt N),(176,Ei N)] Yu [(194,GY N)]) (L:=⟨[],[]⟩) (fn:=Tryz.f127) (N:=N+9) (Ag ⟨Hz N,JY N,Eb N,trivial⟩ ⟨Js N,trivial⟩)
end
noncomputable section
def Xh (N:Nat):Sig:=.of [.cell false .str,MB] [.cell false (.int .i64)] (fun a=>DK N a.1 a.2)
theorem TC (N:Nat):Spec Tryz.prog 124 (Xh N):=Ad (C:=ctx Tryz.prog [(196,Q9 N)] []) (L:=⟨[],[]⟩) (fn:=Tryz.f124) (N:=N) (Ag ⟨Xq N,trivial⟩)
end
noncomputable section
def Xa:List (Nat×Nrm):=[(13,⟨[1,4],[],[],[],[]⟩)]
def Yp:Lk:=⟨[(13,⟨[(1,.c (.c (.ptr 33024 0))),(4,.c xb)],[(33024,.box [(xl Tq1),x64,xb,(xl (.sl 177 Tq0 .nil))])]⟩)],[]⟩
def Oi (N:Nat):Sig:=.of [Sq5] [.cell false (.int .i64)] (fun a=>Io N a)
theorem UH (N:Nat):Spec Tryz.prog 79 (Oi N):=Ad (C:=ctx Tryz.prog [(56,Jp N),(167,JH N)] Xa) (L:=Yp) (fn:=Tryz.f79) (N:=N) (Ag ⟨Mc N,Jw N,trivial⟩)
def JF (N:Nat):Sig:=.of [Sq2] [.cell false (.int .i64)] (fun a=>EZ N a)
theorem Px (N:Nat):Spec Tryz.prog 57 (JF N):=Ad (C:=ctx Tryz.prog [(158,KF N)] []) (L:=⟨[],[]⟩) (fn:=Tryz.f57) (N:=N) (Ag ⟨Lm N,trivial⟩)
def aI:List (Nat×Nrm):=[(3,⟨[5],[],[],[],[]⟩),(26,⟨[5,16,17,18],[],[],[],[]⟩)]
def dX:Lk:=⟨[],[(26,⟨[(5,.c xs),(16,.i),(17,.i),(18,.c x64)],[]⟩,[(0,⟨[(5,.c xs)],[]⟩)])]⟩
def KW (N:Nat):Sig:=.of [.cell false (.sl 80 Tq1)] [.cell false .str,.cell false (.int .i64)] (fun a=>FT N a)
theorem NS (N:Nat):Spec Tryz.prog 72 (KW N):=Ad (C:=ctx Tryz.prog [(165,QY N),(74,LJ N)] aI) (L:=dX) (fn:=Tryz.f72) (N:=N) (Ag ⟨TW N,MG N,trivial⟩)
def Yf:List (Nat×Nrm):=[(3,⟨[0,6],[([6],9,(.str .nil),1004096)],[],[(1000000,1004096)],[]⟩),(22,⟨[0,6,15,16,17],[([6],9,(.str .nil),1000000)],[],[(43264,1000000)],[]⟩)]
def Zp:Lk:=⟨[],[(22,⟨[(0,.i),(6,.c (xo 1000000)),(15,.i),(16,.i),(17,.c x64)],[(1000000,.arr 9 false (.str .nil))]⟩,[(0,⟨[(0,.i),(6,.c (xo 1004096))],[(1004096,.arr 9 false (.str .nil))]⟩)])]⟩
def Pn (N:Nat):Sig:=.of [.cell false (.int .i64),.cell false (.sl 80 Tq1)] [.cell false .str,.cell false (.int .i64)] (fun a=>DY N a.1 a.2)
theorem Vd (N:Nat):Spec Tryz.prog 238 (Pn N):=Ad (C:=ctx Tryz.prog [(74,LJ N),(164,JA N)] Yf) (L:=Zp) (fn:=Tryz.f238) (N:=N) (Ag ⟨MG N,Ii N,trivial⟩)
def aH:List (Nat×Nrm):=[(3,⟨[7],[([7],80,Tq1,1004096)],[],[(1000000,1004096)],[]⟩),(38,⟨[7,26,27,28],[([7],80,Tq1,1000000)],[],[(43776,1000000)],[]⟩)]
def dV:Lk:=⟨[],[(38,⟨[(7,.c (xo 1000000)),(26,.i),(27,.i),(28,.c x64)],[(1000000,.arr 80 false Tq1)]⟩,[(0,⟨[(7,.c (xo 1004096))],[(1004096,.arr 80 false Tq1)]⟩)])]⟩
def KU (N:Nat):Sig:=.of [.cell false .str] [.cell false (.sl 80 Tq1),.cell false (.int .i64)] (fun a=>DF N a)
theorem NQ (N:Nat):Spec Tryz.prog 174 (KU N):=Ad (C:=ctx Tryz.prog [(220,I4 N),(165,QY N),(222,PW N)] aH) (L:=dV) (fn:=Tryz.f174) (N:=N) (Ag ⟨G6 N,TW N,RD N,trivial⟩)
def Ye:List (Nat×Nrm):=[(3,⟨[6],[([6],80,Tq1,1004096)],[],[(1000000,1004096)],[]⟩),(34,⟨[6,23,24,25],[([6],80,Tq1,1000000)],[],[(48128,1000000)],[]⟩)]
def Zn:Lk:=⟨[],[(34,⟨[(6,.c (xo 1000000)),(23,.i),(24,.i),(25,.c x64)],[(1000000,.arr 80 false Tq1)]⟩,[(0,⟨[(6,.c (xo 1004096))],[(1004096,.arr 80 false Tq1)]⟩)])]⟩
def Pm (N:Nat):Sig:=.of [.cell false .str] [.cell false (.sl 80 Tq1),.cell false (.int .i64)] (fun a=>BG N a)
theorem Vb (N:Nat):Spec Tryz.prog 239 (Pm N):=Ad (C:=ctx Tryz.prog [(220,I4 N),(222,PW N)] Ye) (L:=Zn) (fn:=Tryz.f239) (N:=N) (Ag ⟨G6 N,RD N,trivial⟩)
end
noncomputable section
def Yt (N:Nat):Sig:=.of [.cell false .str,MB] [.cell false (.int .i64)] (fun a=>DU N a.1 a.2)
theorem UJ (N:Nat):Spec Tryz.prog 130 (Yt N):=Ad (C:=ctx Tryz.prog [(170,KR N),(192,Jt N)] []) (L:=⟨[],[]⟩) (fn:=Tryz.f130) (N:=N) (Ag ⟨IZ N,JY N,trivial⟩)
def Yw (N:Nat):Sig:=.of [.cell false .str,MB] [.cell false (.int .i64)] (fun a=>DV N a.1 a.2)
theorem UO (N:Nat):Spec Tryz.prog 139 (Yw N):=Ad (C:=ctx Tryz.prog [(170,KR N),(202,Nv N)] []) (L:=⟨[],[]⟩) (fn:=Tryz.f139) (N:=N) (Ag ⟨IZ N,Pz N,trivial⟩)
end
noncomputable section
def VJ:List (Nat×Nrm):=[(3,⟨[],[],[],[],[]⟩),(18,⟨[9,10,11],[],[],[],[]⟩)]
def WV:Lk:=⟨[],[(18,⟨[(9,.i),(10,.i),(11,.c x64)],[]⟩,[(0,⟨[],[]⟩)])]⟩
def Gt (N:Nat):Sig:=.of [.cell false (.sl 111 Tq2)] [.cell false (.int .i64)] (fun a=>BO N a)
theorem He (N:Nat):Spec Tryz.prog 24 (Gt N):=Ad (C:=ctx Tryz.prog [(79,Oi N)] VJ) (L:=WV) (fn:=Tryz.f24) (N:=N) (Ag ⟨UH N,trivial⟩)
def cZ (N:Nat):Sig:=.of [.box [(false,.bool)],Sq2] [.cell false .str] (fun a=>FP N a.1 a.2)
theorem Xy (N:Nat):Spec Tryz.prog 132 (cZ N):=Ad (C:=ctx Tryz.prog [(72,KW N),(71,Dq N),(75,DD N)] []) (L:=⟨[],[]⟩) (fn:=Tryz.f132) (N:=N) (Ag ⟨NS N,Di N,Dp N,trivial⟩)
def U1 (N:Nat):Sig:=.of [Sq7] [.cell false .str,.cell false (.int .i64)] (fun a=>LV N a)
theorem aO (N:Nat):Spec Tryz.prog 200 (U1 N):=Ad (C:=ctx Tryz.prog [(158,KF N),(238,Pn N),(164,JA N)] []) (L:=⟨[],[]⟩) (fn:=Tryz.f200) (N:=N) (Ag ⟨Lm N,Vd N,Ii N,trivial⟩)
def VQ:List (Nat×Nrm):=[(45,⟨[0,2,4,5],[],[(some 34048,0,Tq1)],[],[]⟩),(73,⟨[0,2,4,5],[],[],[],[]⟩),(105,⟨[0,2,4,5],[],[(some 34048,3,(.sl 177 Tq0 .nil))],[],[]⟩)]
def Xb:Lk:=⟨[(45,⟨[(0,.c (.c (.ptr 0 0))),(2,.c (.c (.ptr 33280 0))),(4,.c (.c (.ptr 33792 0))),(5,.c (.c (.ptr 34048 0)))],[(0,.box [(xl Tq6)]),(33280,.box [(xo 33281),(.c (.int .i64 0)),(.c (.bool false)),(xo 33284)]),(33281,.Bg 80 false Tq1),(33284,.Bg 175 false (.sl 177 Tq0 .nil)),(33792,.box [(xo 33793),(.c (.int .i64 0)),(.c (.bool false)),(xo 33796)]),(33793,.Bg 80 false Tq1),(33796,.Bg 175 false (.sl 177 Tq0 .nil)),(34048,.box [(xl Tq1),(.c (.int .i64 0)),(.c (.bool false)),(xo 34052)]),(34052,.Bg 175 false (.sl 177 Tq0 .nil))]⟩),(73,⟨[(0,.c (.c (.ptr 0 0))),(2,.c (.c (.ptr 33280 0))),(4,.c (.c (.ptr 33792 0))),(5,.c (.c (.ptr 34048 0)))],[(0,.box [(xl Tq6)]),(33280,.box [(xo 33281),(.c (.int .i64 0)),(.c (.bool false)),(xo 33284)]),(33281,.Bg 80 false Tq1),(33284,.Bg 175 false (.sl 177 Tq0 .nil)),(33792,.box [(xo 33793),(.c (.int .i64 0)),(.c (.bool false)),(xo 33796)]),(33793,.Bg 80 false Tq1),(33796,.Bg 175 false (.sl 177 Tq0 .nil)),(34048,.box [(xl Tq1),x64,(.c (.bool false)),(xo 34052)]),(34052,.Bg 175 false (.sl 177 Tq0 .nil))]⟩),(105,⟨[(0,.c (.c (.ptr 0 0))),(2,.c (.c (.ptr 33280 0))),(4,.c (.c (.ptr 33792 0))),(5,.c (.c (.ptr 34048 0)))],[(0,.box [(xl Tq6)]),(33280,.box [(xo 33281),(.c (.int .i64 0)),(.c (.bool false)),(xo 33284)]),(33281,.Bg 80 false Tq1),(33284,.Bg 175 false (.sl 177 Tq0 .nil)),(33792,.box [(xo 33793),(.c (.int .i64 0)),(.c (.bool false)),(xo 33796)]),(33793,.Bg 80 false Tq1),(33796,.Bg 175 false (.sl 177 Tq0 .nil)),(34048,.box [(xl Tq1),x64,xb,(xl (.sl 177 Tq0 .nil))])]⟩)],[]⟩
def NL (N:Nat):Sig:=.of [P9] [Sq5,.cell false (.int .i64)] (fun a=>Hy N a)
theorem Tv (N:Nat):Spec Tryz.prog 87 (NL N):=Ad (C:=ctx Tryz.prog [(173,Hm N),(170,KR N),(174,KU N),(175,Us N),(176,Ei N)] VQ) (L:=Xb) (fn:=Tryz.f87) (N:=N) (Ag ⟨Hz N,IZ N,NQ N,VA N,Eb N,trivial⟩)
def bK (N:Nat):Sig:=.of [.cell false .str,MB] [.cell false (.int .i64)] (fun a=>FN N a.1 a.2)
theorem Xi (N:Nat):Spec Tryz.prog 133 (bK N):=Ad (C:=ctx Tryz.prog [(170,KR N),(174,KU N)] []) (L:=⟨[],[]⟩) (fn:=Tryz.f133) (N:=N) (Ag ⟨IZ N,NQ N,trivial⟩)
def kS:List (Nat×Nrm):=[(46,⟨[2,4,5,8,37,38,39],[],[],[],[]⟩)]
def U0 (N:Nat):Sig:=.of [.cell false .str] [Sq7,.cell false (.int .i64)] (fun a=>Ed N a)
theorem aN (N:Nat):Spec Tryz.prog 201 (U0 N):=Ad (C:=ctx Tryz.prog [(207,QO N),(220,I4 N),(158,KF N),(239,Pm N)] kS) (L:=⟨[],[]⟩) (fn:=Tryz.f201) (N:=N+9) (Ag ⟨Pv N,G6 N,Lm N,Vb N,trivial⟩)
end
noncomputable section
def mO:List (Nat×Nrm):=[(3,⟨[1,10],[],[],[],[]⟩),(130,⟨[1,10,120,121,122],[],[],[],[]⟩)]
def rJ:Lk:=⟨[],[(130,⟨[(1,.c (.c (.ptr 33024 0))),(10,.c x64),(120,.i),(121,.i),(122,.c x64)],[(33024,.box [xb,xb,x64,x64,(xl (.str .nil)),(xl (.str .nil)),(xl (.str (.str .nil))),x64,x64,x64,(xl Tq1),xb,(xl Tq1),(xl Tq1),xs,xs,(xl Tq2),(xl Tq2),(xl Tq3)])]⟩,[(0,⟨[(1,.c (.c (.ptr 33024 0))),(10,.c x64)],[(33024,.box [xb,xb,x64,x64,(xl (.str .nil)),(xl (.str .nil)),(xl (.str (.str .nil))),x64,x64,x64,(xl Tq1),xb,(xl Tq1),(xl Tq1),xs,xs,(xl Tq2),(xl Tq2),(xl Tq3)])]⟩)])]⟩
def Oh (N:Nat):Sig:=.of [Sq2] [.cell false (.int .i64)] (fun a=>Ia N a)
theorem Q4 (N:Nat):Spec Tryz.prog 15 (Oh N):=Ad (C:=ctx Tryz.prog [(53,X8 N),(54,Q5 N),(55,LZ N),(56,Jp N),(57,JF N),(24,Gt N),(44,Lt N),(58,MK N)] mO [] [(127,dI N)] [] [15,19,20,24,28,29,34,39,40,45,46,51,52,56,57,61]) (L:=rJ) (fn:=Tryz.f15) (N:=N) (Ag ⟨jS N,WX N,QS N,Mc N,Px N,He N,MF N,RV N,trivial⟩ trivial ⟨rZ N,trivial⟩)
def TG (N:Nat):Sig:=.of [.box [(false,.bool)],Sq2] [.cell false .str] (fun a=>Ey N a.1 a.2)
theorem QA (N:Nat):Spec Tryz.prog 135 (TG N):=Ad (C:=ctx Tryz.prog [(200,U1 N),(71,Dq N)] []) (L:=⟨[],[]⟩) (fn:=Tryz.f135) (N:=N) (Ag ⟨aO N,Di N,trivial⟩)
def UE:List (Nat×Nrm):=[(3,⟨[5,6],[([6],9,(.str .nil),1016384)],[],[(1000000,1016384)],[]⟩),(38,⟨[5,6,22,23,24],[([6],9,(.str .nil),1000000)],[],[(54272,1000000)],[]⟩),(57,⟨[5,6,8,9,22,23,24],[([6],9,(.str .nil),1004096)],[],[(1000000,1004096)],[]⟩),(65,⟨[5,6,8,9,22,23,24],[([6],9,(.str .nil),1008192)],[],[(1004096,1008192)],[]⟩),(77,⟨[5,6,9,22,23,24],[([6],9,(.str .nil),1012288)],[],[(1008192,1012288)],[]⟩)]
def VM:Lk:=⟨[(57,⟨[(5,.c (.c (.ptr 38144 0))),(6,.c (xo 1004096)),(8,.c (.c (.ptr 34816 0))),(9,.c (xo 39936)),(22,.i),(23,.i),(24,.i)],[(34816,.box [(xl Tq1),x64,xb,(xl (.sl 177 Tq0 .nil))]),(38144,.box [xb]),(39936,.arr 9 false (.str .nil)),(1004096,.arr 9 false (.str .nil))]⟩),(65,⟨[(5,.c (.c (.ptr 38144 0))),(6,.c (xo 1008192)),(8,.c (.c (.ptr 34816 0))),(9,.c (xo 39936)),(22,.i),(23,.i),(24,.i)],[(34816,.box [(xl Tq1),x64,xb,(xl (.sl 177 Tq0 .nil))]),(38144,.box [xb]),(39936,.arr 9 false (.str .nil)),(1008192,.arr 9 false (.str .nil))]⟩),(77,⟨[(5,.c (.c (.ptr 38144 0))),(6,.c (xo 1012288)),(9,.c (xo 39936)),(22,.i),(23,.i),(24,.i)],[(38144,.box [xb]),(39936,.arr 9 false (.str .nil)),(1012288,.arr 9 false (.str .nil))]⟩)],[(38,⟨[(5,.c (.c (.ptr 38144 0))),(6,.c (xo 1000000)),(22,.i),(23,.i),(24,.c x64)],[(38144,.box [xb]),(1000000,.arr 9 false (.str .nil))]⟩,[(0,⟨[(5,.c (.c (.ptr 38144 0))),(6,.c (xo 1016384))],[(38144,.box [xb]),(1016384,.arr 9 false (.str .nil))]⟩)])]⟩
def I9 (N:Nat):Sig:=.of [.cell false (.sl 111 Tq2)] [.cell false .str,.cell false (.int .i64)] (fun a=>EY N a)
theorem Kv (N:Nat):Spec Tryz.prog 22 (I9 N):=Ad (C:=ctx Tryz.prog [(24,Gt N),(72,KW N),(71,Dq N),(70,Dc N),(73,OQ N),(74,LJ N),(75,DD N),(45,Ny N)] UE) (L:=VM) (fn:=Tryz.f22) (N:=N) (Ag ⟨He N,NS N,Di N,CE N,QM N,MG N,Dp N,P5 N,trivial⟩)
def UD:List (Nat×Nrm):=[(3,⟨[6],[([6],111,Tq2,1004096)],[],[(1000000,1004096)],[]⟩),(30,⟨[4,6],[([6],111,Tq2,1000000)],[],[(44032,1000000)],[]⟩)]
def VK:Lk:=⟨[],[(30,⟨[(4,.c (.c (.ptr 36096 0))),(6,.c (xo 1000000))],[(36096,.box [(xl Tq6)]),(1000000,.arr 111 false Tq2)]⟩,[(0,⟨[(6,.c (xo 1004096))],[(1004096,.arr 111 false Tq2)]⟩)])]⟩
def I8 (N:Nat):Sig:=.of [.cell false .str] [.cell false (.sl 111 Tq2),.cell false (.int .i64)] (fun a=>EX N a)
theorem Ku (N:Nat):Spec Tryz.prog 28 (I8 N):=Ad (C:=ctx Tryz.prog [(85,F5 N),(87,NL N),(24,Gt N)] UD [(84,L9 N),(86,FH N)]) (L:=VK) (fn:=Tryz.f28) (N:=N) (Ag ⟨Fb N,Tv N,He N,trivial⟩ ⟨Ou N,Ja N,trivial⟩)
def TA (N:Nat):Sig:=.of [.cell false .str,MB] [.cell false (.int .i64)] (fun a=>DI N a.1 a.2)
theorem Q7 (N:Nat):Spec Tryz.prog 136 (TA N):=Ad (C:=ctx Tryz.prog [(201,U0 N)] []) (L:=⟨[],[]⟩) (fn:=Tryz.f136) (N:=N) (Ag ⟨aN N,trivial⟩)
end
noncomputable section
def ZR (N:Nat):Sig:=.of [.box [(false,.bool)],Sq2] [.cell false .str] (fun a=>G7 N a.1 a.2)
theorem We (N:Nat):Spec Tryz.prog 144 (ZR N):=Ad (C:=ctx Tryz.prog [(22,I9 N),(71,Dq N)] []) (L:=⟨[],[]⟩) (fn:=Tryz.f144) (N:=N) (Ag ⟨Kv N,Di N,trivial⟩)
def Xu (N:Nat):Sig:=.of [.box [(false,.bool)],Sq2] [.cell false .str] (fun a=>FD N a.1 a.2)
theorem TJ (N:Nat):Spec Tryz.prog 147 (Xu N):=Ad (C:=ctx Tryz.prog [(22,I9 N),(71,Dq N)] []) (L:=⟨[],[]⟩) (fn:=Tryz.f147) (N:=N) (Ag ⟨Kv N,Di N,trivial⟩)
def ZJ (N:Nat):Sig:=.of [.cell false .str,MB] [.cell false (.int .i64)] (fun a=>Fv N a.1 a.2)
theorem VU (N:Nat):Spec Tryz.prog 145 (ZJ N):=Ad (C:=ctx Tryz.prog [(28,I8 N)] []) (L:=⟨[],[]⟩) (fn:=Tryz.f145) (N:=N) (Ag ⟨Ku N,trivial⟩)
def Xf (N:Nat):Sig:=.of [.cell false .str,MB] [.cell false (.int .i64)] (fun a=>Eo N a.1 a.2)
theorem TB (N:Nat):Spec Tryz.prog 148 (Xf N):=Ad (C:=ctx Tryz.prog [(28,I8 N)] []) (L:=⟨[],[]⟩) (fn:=Tryz.f148) (N:=N) (Ag ⟨Ku N,trivial⟩)
end
noncomputable section
def Aa6 (N n:Nat):Sig:=.of [.box [(false,.bool)],Sq2] [.cell false .str] (yJ N n)
theorem Agx (N:Nat):RJ Tryz.prog (Aa6 N):=SQ (Af:=[.box [(false,.bool)],Sq2]) (Az:=[.cell false .str]) (l:=[(111,fun a=>FO N a.1 a.2),(114,fun a=>FQ N a.1 a.2),(117,fun a=>Et N a.1 a.2),(120,fun a=>Es N a.1 a.2),(123,fun a=>Ep N a.1 a.2),(126,fun a=>Fz N a.1 a.2),(129,fun a=>EL N a.1 a.2),(132,fun a=>FP N a.1 a.2),(135,fun a=>Ey N a.1 a.2),(138,fun a=>EM N a.1 a.2),(141,fun a=>Ea N a.1 a.2),(144,fun a=>G7 N a.1 a.2),(147,fun a=>FD N a.1 a.2)]) ⟨Xr N,X7 N,TM N,TL N,TK N,VY N,UQ N,Xy N,QA N,UR N,RY N,We N,TJ N,trivial⟩
def Aa7 (N n:Nat):Sig:=.of [.cell false .str,MB] [.cell false (.int .i64)] (iO N n)
theorem Agy (N:Nat):RJ Tryz.prog (Aa7 N):=SQ (Af:=[.cell false .str,MB]) (Az:=[.cell false (.int .i64)]) (l:=[(112,fun a=>EE N a.1 a.2),(115,fun a=>EF N a.1 a.2),(118,fun a=>DN N a.1 a.2),(121,fun a=>DL N a.1 a.2),(124,fun a=>DK N a.1 a.2),(127,fun a=>Eh N a.1 a.2),(130,fun a=>DU N a.1 a.2),(133,fun a=>FN N a.1 a.2),(136,fun a=>DI N a.1 a.2),(139,fun a=>DV N a.1 a.2),(142,fun a=>DC N a.1 a.2),(145,fun a=>Fv N a.1 a.2),(148,fun a=>Eo N a.1 a.2)]) ⟨Xd N,Xo N,TE N,TD N,TC N,VT N,UJ N,Xi N,Q7 N,UO N,RX N,VU N,TB N,trivial⟩
end
noncomputable section
def jI:List (Nat×Nrm):=[(3,⟨[1,5,6],[([6],60,Tq3,1004096)],[],[(1000000,1004096)],[]⟩),(30,⟨[1,5,6,16,17,18],[([6],60,Tq3,1000000)],[],[(44032,1000000)],[]⟩)]
def mV:Lk:=⟨[],[(30,⟨[(1,.c (.c (.ptr 33024 0))),(5,.c (.c (.ptr 36608 0))),(6,.c (xo 1000000)),(16,.i),(17,.i),(18,.c x64)],[(33024,.box [xb,xb,x64,x64,(xl (.str .nil)),(xl (.str .nil)),(xl (.str (.str .nil))),x64,x64,x64,(xl Tq1),xb,(xl Tq1),(xl Tq1),xs,xs,(xl Tq2),(xl Tq2),(xl Tq3)]),(36608,.box [xb]),(1000000,.arr 60 false Tq3)]⟩,[(0,⟨[(1,.c (.c (.ptr 33024 0))),(5,.c (.c (.ptr 36608 0))),(6,.c (xo 1004096))],[(33024,.box [xb,xb,x64,x64,(xl (.str .nil)),(xl (.str .nil)),(xl (.str (.str .nil))),x64,x64,x64,(xl Tq1),xb,(xl Tq1),(xl Tq1),xs,xs,(xl Tq2),(xl Tq2),(xl Tq3)]),(36608,.box [xb]),(1004096,.arr 60 false Tq3)]⟩)])]⟩
def Nu (N:Nat):Sig:=.of [Sq2] [.cell false (.sl 60 Tq3),.cell false (.int .i64)] (fun a=>FM N a)
theorem Py (N:Nat):Spec Tryz.prog 13 (Nu N):=Ad (C:=ctx Tryz.prog [(15,Oh N),(44,Lt N),(45,Ny N)] jI [] [(23,dI N),(38,Aa6 N)]) (L:=mV) (fn:=Tryz.f13) (N:=N) (Ag ⟨Q4 N,MF N,P5 N,trivial⟩ trivial ⟨rZ N,Agx N,trivial⟩)
def rU:List (Nat×Nrm):=[(3,⟨[0,5],[],[],[],[]⟩),(18,⟨[0,5,15,16,17],[],[],[],[]⟩)]
def yB:Lk:=⟨[],[(18,⟨[(0,.c (.c (.ptr 0 0))),(5,.c (.c (.ptr 34048 0))),(15,.i),(16,.i),(17,.c x64)],[(0,.box [xb,xb,x64,x64,(xo 5),(xo 6),(xo 7),x64,x64,x64,(xl Tq1),xb,(xl Tq1),(xl Tq1),xs,xs,(xl Tq2),(xl Tq2),(xo 19)]),(5,.arr 9 true (.str .nil)),(6,.arr 9 true (.str .nil)),(7,.arr 74 true (.str (.str .nil))),(19,.arr 60 true Tq3),(34048,.box [xs,xb,xs])]⟩,[(0,⟨[(0,.c (.c (.ptr 0 0))),(5,.c (.c (.ptr 34048 0)))],[(0,.box [xb,xb,x64,x64,(xo 5),(xo 6),(xo 7),x64,x64,x64,(xl Tq1),xb,(xl Tq1),(xl Tq1),xs,xs,(xl Tq2),(xl Tq2),(xo 19)]),(5,.arr 9 true (.str .nil)),(6,.arr 9 true (.str .nil)),(7,.arr 74 true (.str (.str .nil))),(19,.arr 60 true Tq3),(34048,.box [xs,xb,xs])]⟩)])]⟩
def X9 (N:Nat):Sig:=.of [MB,.cell false (.sl 60 Tq3),ApF] [.cell false (.int .i64)] (fun a=>Bv N a.1 a.2.1 a.2.2)
theorem jT (N:Nat):Spec Tryz.prog 100 (X9 N):=Ad (C:=ctx Tryz.prog [(156,JW N),(159,PI N),(160,WM N)] rU [] [(66,Aa7 N)] [] [51,55,56,60,63,64]) (L:=yB) (fn:=Tryz.f100) (N:=N) (Ag ⟨Jh N,Rx N,Yg N,trivial⟩ trivial ⟨Agy N,trivial⟩)
end
noncomputable section
def Zx (N:Nat):Sig:=.of [] [.cell false .bool] (fun _=>Qo N)
theorem oV (N:Nat):Spec Tryz.prog 10 (Zx N):=Ad (C:=ctx Tryz.prog [(19,PH N),(13,Nu N)] [] [] [] [] [22,26,27,33,34,37,38,42]) (L:=⟨[],[]⟩) (fn:=Tryz.f10) (N:=N) (Ag ⟨Ru N,Py N,trivial⟩)
def jH:List (Nat×Nrm):=[(3,⟨[2,4],[],[],[(36101,1004144),(36102,1004128),(36103,1004112),(36115,1004096),(1000000,1004096),(1000016,1004112),(1000032,1004128),(1000048,1004144)],[]⟩),(22,⟨[0,2,4,14,15,16],[],[],[(33797,1000048),(33798,1000032),(33799,1000016),(33811,1000000),(36101,1000048),(36102,1000032),(36103,1000016),(36115,1000000)],[]⟩)]
def mP:Lk:=⟨[],[(22,⟨[(0,.i),(2,.c (.c (.ptr 33280 0))),(4,.c (.c (.ptr 33792 0))),(14,.i),(15,.i),(16,.c x64)],[(33280,.box [(.c (.bool false)),(.c (.bool false)),(.c (.int .i64 0)),(.c (.int .i64 0)),(xo 33285),(xo 33286),(xo 33287),(.c (.int .i64 0)),(.c (.int .i64 0)),(.c (.int .i64 0)),(xo 33291),(.c (.bool false)),(xo 33293),(xo 33294),(.c (.str ([]:Bs))),(.c (.str ([]:Bs))),(xo 33297),(xo 33298),(xo 33299)]),(33285,.Bg 9 false (.str .nil)),(33286,.Bg 9 false (.str .nil)),(33287,.Bg 74 false (.str (.str .nil))),(33291,.Bg 80 false Tq1),(33293,.Bg 80 false Tq1),(33294,.Bg 80 false Tq1),(33297,.Bg 111 false Tq2),(33298,.Bg 111 false Tq2),(33299,.Bg 60 false Tq3),(33792,.box [xb,xb,x64,x64,(xo 1000048),(xo 1000032),(xo 1000016),x64,x64,x64,(xl Tq1),xb,(xl Tq1),(xl Tq1),xs,xs,(xl Tq2),(xl Tq2),(xo 1000000)]),(1000000,.arr 60 true Tq3),(1000016,.arr 74 true (.str (.str .nil))),(1000032,.arr 9 true (.str .nil)),(1000048,.arr 9 true (.str .nil))]⟩,[(0,⟨[(2,.c (.c (.ptr 33280 0))),(4,.c (.c (.ptr 33792 0)))],[(33280,.box [(.c (.bool false)),(.c (.bool false)),(.c (.int .i64 0)),(.c (.int .i64 0)),(xo 33285),(xo 33286),(xo 33287),(.c (.int .i64 0)),(.c (.int .i64 0)),(.c (.int .i64 0)),(xo 33291),(.c (.bool false)),(xo 33293),(xo 33294),(.c (.str ([]:Bs))),(.c (.str ([]:Bs))),(xo 33297),(xo 33298),(xo 33299)]),(33285,.Bg 9 false (.str .nil)),(33286,.Bg 9 false (.str .nil)),(33287,.Bg 74 false (.str (.str .nil))),(33291,.Bg 80 false Tq1),(33293,.Bg 80 false Tq1),(33294,.Bg 80 false Tq1),(33297,.Bg 111 false Tq2),(33298,.Bg 111 false Tq2),(33299,.Bg 60 false Tq3),(33792,.box [xb,xb,x64,x64,(xo 1004144),(xo 1004128),(xo 1004112),x64,x64,x64,(xl Tq1),xb,(xl Tq1),(xl Tq1),xs,xs,(xl Tq2),(xl Tq2),(xo 1004096)]),(1004096,.arr 60 true Tq3),(1004112,.arr 74 true (.str (.str .nil))),(1004128,.arr 9 true (.str .nil)),(1004144,.arr 9 true (.str .nil))]⟩)])]⟩
def Tt (N:Nat):Sig:=.of [.cell false (.sl 60 Tq3)] [Sq2,.cell false (.int .i64)] (fun a=>GX N a)
theorem ZE (N:Nat):Spec Tryz.prog 34 (Tt N):=Ad (C:=ctx Tryz.prog [(19,PH N),(100,X9 N),(15,Oh N)] jH) (L:=mP) (fn:=Tryz.f34) (N:=N) (Ag ⟨Ru N,jT N,Q4 N,trivial⟩)
end
noncomputable section
def YO (N:Nat):Sig:=.of [Aky] [.cell false .bool] (fun a=>Gs N a)
theorem UY (N:Nat):Spec Tryz.prog 8 (YO N):=Ad (C:=ctx Tryz.prog [(12,uS N),(32,lK N),(13,Nu N),(34,Tt N),(10,Zx N),(17,MR N)] [] [] [] [] [29,32,33,36,37,40,41,45]) (L:=⟨[],[]⟩) (fn:=Tryz.f8) (N:=N) (Ag ⟨Ab7 N,zV N,Py N,ZE N,oV N,SB N,trivial⟩)
end
