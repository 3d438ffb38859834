import Derived.Test.YtadefjgbcapakaaGreatDoorA15
import Derived.Test.YtadefjgbcapakaaGreatDoorA16
set_option linter.all false
namespace Go.Proofs.YtadefjgbcapakaaGreatDoor.Vm
noncomputable section
open Go.Proofs
def lL:List (Nat×Nrm):=[(3,⟨[3],[([3],3,(.int .i64 .nil),1016384)],[],[(1000000,1016384)],[]⟩),(7,⟨[0,3,4],[],[],[],[]⟩),(11,⟨[],[],[],[],[]⟩),(14,⟨[0,3,4],[([3],3,(.int .i64 .nil),1000000)],[],[(42240,1000000)],[]⟩),(30,⟨[0,3,4,5],[([3],3,(.int .i64 .nil),1004096)],[],[(1000000,1004096)],[]⟩)]
def oP:Lk:=⟨[],[(14,⟨[(0,.i),(3,.c (xo 1000000)),(4,.c x64)],[(1000000,.arr 3 false (.int .i64 .nil))]⟩,[(0,⟨[(3,.c (xo 1016384))],[(1016384,.arr 3 false (.int .i64 .nil))]⟩)]),(30,⟨[(0,.i),(3,.c (xo 1004096)),(4,.c x64),(5,.c x64)],[(1004096,.arr 3 false (.int .i64 .nil))]⟩,[(1,⟨[(0,.i),(3,.c (xo 42240)),(4,.c x64)],[(42240,.arr 3 false (.int .i64 .nil))]⟩),(2,⟨[],[]⟩)])]⟩
def Vz (N:Nat):Sig:=.of [.cell false .str] [Agl] (fun a=>MW N a)
theorem bT (N:Nat):Spec Tryz.prog 268 (Vz N):=Ac (C:=ctx Tryz.prog [] lL) (L:=oP) (fn:=Tryz.f268) (N:=N) (Ah trivial)
def Q8 (N:Nat):Sig:=.of [Sq1,jW] [] (fun a=>G6 N a.1 a.2)
theorem NT (N:Nat):Spec Tryz.prog 197 (Q8 N):=Ac (C:=ctx Tryz.prog [] []) (L:=⟨[],[]⟩) (fn:=Tryz.f197) (N:=N) (Ah trivial)
def Q5 (N:Nat):Sig:=.of [Sq1,jW] [] (fun a=>G5 N a.1 a.2)
theorem NS (N:Nat):Spec Tryz.prog 198 (Q5 N):=Ac (C:=ctx Tryz.prog [] []) (L:=⟨[],[]⟩) (fn:=Tryz.f198) (N:=N) (Ah trivial)
def JA (N:Nat):Sig:=.of [.cell false .str] [.cell false (.int .i64)] (fun a=>Gz N a)
theorem L6 (N:Nat):Spec Tryz.prog 202 (JA N):=Ac (C:=ctx Tryz.prog [] []) (L:=⟨[],[]⟩) (fn:=Tryz.f202) (N:=N) (Ah trivial)
def Wx:List (Nat×Nrm):=[(3,⟨[],[],[],[],[]⟩),(18,⟨[9,10,11],[],[],[],[]⟩)]
def XU:Lk:=⟨[],[(18,⟨[(9,.i),(10,.i),(11,.c (.c (.int .i64 0)))],[]⟩,[(0,⟨[],[]⟩)])]⟩
def IP (N:Nat):Sig:=.of [.cell false (.sl 80 Tq1)] [.cell false (.int .i64)] (fun a=>Hr N a)
theorem JU (N:Nat):Spec Tryz.prog 62 (IP N):=Ac (C:=ctx Tryz.prog [] Wx) (L:=XU) (fn:=Tryz.f62) (N:=N) (Ah trivial)
def V8 (N:Nat):Sig:=.of [] [Sq1] (fun _=>Nb N)
theorem dH (N:Nat):Spec Tryz.prog 107 (V8 N):=Ac (C:=ctx Tryz.prog [] []) (L:=⟨[],[]⟩) (fn:=Tryz.f107) (N:=N) (Ah trivial)
def Yb (N:Nat):Sig:=.of [.cell false (.int .i64)] [.cell false .bool] (fun a=>Eu N a)
theorem jE (N:Nat):Spec Tryz.prog 59 (Yb N):=Ac (C:=ctx Tryz.prog [] []) (L:=⟨[],[]⟩) (fn:=Tryz.f59) (N:=N) (Ah trivial)
def pV:List (Nat×Nrm):=[(3,⟨[4],[([4],3,(.int .i64 .nil),1012288)],[],[(1000000,1012288)],[]⟩),(11,⟨[0,4,6,8],[([4],3,(.int .i64 .nil),1008192)],[],[(1004096,1008192)],[]⟩),(18,⟨[0,4,5,6],[([4],3,(.int .i64 .nil),1000000)],[],[(53760,1000000)],[]⟩),(58,⟨[0,4,6,7,8,9],[([4],3,(.int .i64 .nil),1004096)],[],[(1000000,1004096)],[]⟩)]
def wL:Lk:=⟨[],[(18,⟨[(0,.i),(4,.c (xo 1000000)),(5,.c x64),(6,.c x64)],[(1000000,.arr 3 false (.int .i64 .nil))]⟩,[(0,⟨[(4,.c (xo 1012288))],[(1012288,.arr 3 false (.int .i64 .nil))]⟩)]),(58,⟨[(0,.i),(4,.c (xo 1004096)),(6,.i),(7,.i),(8,.c x64),(9,.c x64)],[(1004096,.arr 3 false (.int .i64 .nil))]⟩,[(2,⟨[(0,.i),(4,.c (xo 1008192)),(6,.i),(8,.c x64)],[(1008192,.arr 3 false (.int .i64 .nil))]⟩)])]⟩
def XJ (N:Nat):Sig:=.of [.cell false .str] [Agl,.cell false .bool] (fun a=>KW N a)
theorem iZ (N:Nat):Spec Tryz.prog 162 (XJ N):=Ac (C:=ctx Tryz.prog [] pV [] [] [] [43,47,48,52,56,57,58,62,88,93,94,99,104,105]) (L:=wL) (fn:=Tryz.f162) (N:=N) (Ah trivial)
end
noncomputable section
def Rk:List (Nat×Nrm):=[(3,⟨[],[],[],[],[]⟩),(18,⟨[9,10,11],[],[],[],[]⟩)]
def Sm:Lk:=⟨[],[(18,⟨[(9,.i),(10,.i),(11,.c (.c (.int .i64 0)))],[]⟩,[(0,⟨[],[]⟩)])]⟩
def JK (N:Nat):Sig:=.of [.cell false (.sl 111 Tq2)] [.cell false (.int .i64)] (fun a=>Dx N a)
theorem PH (N:Nat):Spec Tryz.prog 24 (JK N):=Ac (C:=ctx Tryz.prog [] Rk) (L:=Sm) (fn:=Tryz.f24) (N:=N) (Ah trivial)
def IW (N:Nat):Sig:=.of [] [.cell false (.sl 92 Tq3)] (fun _=>Fe N)
theorem Jm (N:Nat):Spec Tryz.prog 44 (IW N):=Ac (C:=ctx Tryz.prog [] []) (L:=⟨[],[]⟩) (fn:=Tryz.f44) (N:=N) (Ah trivial)
def SS (N:Nat):Sig:=.of [.cell false (.int .i64)] [.cell false .bool] (fun a=>D5 N a)
theorem YK (N:Nat):Spec Tryz.prog 53 (SS N):=Ac (C:=ctx Tryz.prog [] []) (L:=⟨[],[]⟩) (fn:=Tryz.f53) (N:=N) (Ah trivial)
def Ab6:List (Nat×Nrm):=[(3,⟨[3],[],[],[],[]⟩),(22,⟨[0,3,4],[],[],[],[]⟩)]
def AdF:Lk:=⟨[],[(22,⟨[(0,.i),(3,.c x64),(4,.c x64)],[]⟩,[(0,⟨[(3,.c x64)],[]⟩)])]⟩
def nS (N:Nat):Sig:=.of [.cell false .str] [.cell false (.int .i64)] (fun a=>TA N a)
theorem vP (N:Nat):Spec Tryz.prog 243 (nS N):=Ac (C:=ctx Tryz.prog [] Ab6 [] [] [] [7,11,12,16,20,21]) (L:=AdF) (fn:=Tryz.f243) (N:=N) (Ah trivial)
def gY (N:Nat):Sig:=.of [.cell false (.int .i64),.cell false (.int .i64)] [.cell false .bool] (fun a=>UL N a.1 a.2)
theorem oU (N:Nat):Spec Tryz.prog 244 (gY N):=Ac (C:=ctx Tryz.prog [] []) (L:=⟨[],[]⟩) (fn:=Tryz.f244) (N:=N) (Ah trivial)
def Sz:List (Nat×Nrm):=[(3,⟨[],[],[],[],[]⟩),(10,⟨[6,7,8],[],[],[],[]⟩)]
def Ua:Lk:=⟨[],[(10,⟨[(6,.i),(7,.i),(8,.c (.c (.int .i64 0)))],[]⟩,[(0,⟨[],[]⟩)])]⟩
def JY (N:Nat):Sig:=.of [.cell false (.sl 80 Tq1)] [.cell false (.int .i64)] (fun a=>I5 N a)
theorem Qy (N:Nat):Spec Tryz.prog 56 (JY N):=Ac (C:=ctx Tryz.prog [] Sz) (L:=Ua) (fn:=Tryz.f56) (N:=N) (Ah trivial)
def Hy (N:Nat):Sig:=.of [Sq3] [.cell false (.int .i64)] (fun a=>DV N a)
theorem Lu (N:Nat):Spec Tryz.prog 57 (Hy N):=Ac (C:=ctx Tryz.prog [] []) (L:=⟨[],[]⟩) (fn:=Tryz.f57) (N:=N) (Ah trivial)
def ZG (N:Nat):Sig:=.of [.cell false (.int .i64)] [.cell false (.int .i64)] (fun a=>Yt N a)
theorem mO (N:Nat):Spec Tryz.prog 279 (ZG N):=Ac (C:=ctx Tryz.prog [] []) (L:=⟨[],[]⟩) (fn:=Tryz.f279) (N:=N) (Ah trivial)
end
noncomputable section
def ZW (N:Nat):Sig:=.of [Sq3] [.cell false .bool] (fun a=>LQ N a)
theorem VL (N:Nat):Spec Tryz.prog 110 (ZW N):=Ac (C:=ctx Tryz.prog [] []) (L:=⟨[],[]⟩) (fn:=Tryz.f110) (N:=N) (Ah trivial)
def ZY (N:Nat):Sig:=.of [Sq3] [.cell false .bool] (fun a=>LU N a)
theorem VM (N:Nat):Spec Tryz.prog 113 (ZY N):=Ac (C:=ctx Tryz.prog [] []) (L:=⟨[],[]⟩) (fn:=Tryz.f113) (N:=N) (Ah trivial)
def aA (N:Nat):Sig:=.of [Sq3] [.cell false .bool] (fun a=>LV N a)
theorem VN (N:Nat):Spec Tryz.prog 116 (aA N):=Ac (C:=ctx Tryz.prog [] []) (L:=⟨[],[]⟩) (fn:=Tryz.f116) (N:=N) (Ah trivial)
def aC (N:Nat):Sig:=.of [Sq3] [.cell false .bool] (fun a=>LW N a)
theorem VO (N:Nat):Spec Tryz.prog 119 (aC N):=Ac (C:=ctx Tryz.prog [] []) (L:=⟨[],[]⟩) (fn:=Tryz.f119) (N:=N) (Ah trivial)
def aG (N:Nat):Sig:=.of [Sq3] [.cell false .bool] (fun a=>LX N a)
theorem VP (N:Nat):Spec Tryz.prog 122 (aG N):=Ac (C:=ctx Tryz.prog [] []) (L:=⟨[],[]⟩) (fn:=Tryz.f122) (N:=N) (Ah trivial)
def aI (N:Nat):Sig:=.of [Sq3] [.cell false .bool] (fun a=>G7 N a)
theorem VQ (N:Nat):Spec Tryz.prog 125 (aI N):=Ac (C:=ctx Tryz.prog [] []) (L:=⟨[],[]⟩) (fn:=Tryz.f125) (N:=N) (Ah trivial)
def aK (N:Nat):Sig:=.of [Sq3] [.cell false .bool] (fun a=>LY N a)
theorem VR (N:Nat):Spec Tryz.prog 128 (aK N):=Ac (C:=ctx Tryz.prog [] []) (L:=⟨[],[]⟩) (fn:=Tryz.f128) (N:=N) (Ah trivial)
def aO (N:Nat):Sig:=.of [Sq3] [.cell false .bool] (fun a=>LZ N a)
theorem VS (N:Nat):Spec Tryz.prog 131 (aO N):=Ac (C:=ctx Tryz.prog [] []) (L:=⟨[],[]⟩) (fn:=Tryz.f131) (N:=N) (Ah trivial)
end
noncomputable section
def aQ (N:Nat):Sig:=.of [Sq3] [.cell false .bool] (fun a=>Mc N a)
theorem VT (N:Nat):Spec Tryz.prog 134 (aQ N):=Ac (C:=ctx Tryz.prog [] []) (L:=⟨[],[]⟩) (fn:=Tryz.f134) (N:=N) (Ah trivial)
def YD (N:Nat):Sig:=.of [Sq3] [.cell false .bool] (fun a=>JZ N a)
theorem Uh (N:Nat):Spec Tryz.prog 137 (YD N):=Ac (C:=ctx Tryz.prog [] []) (L:=⟨[],[]⟩) (fn:=Tryz.f137) (N:=N) (Ah trivial)
def YF (N:Nat):Sig:=.of [Sq3] [.cell false .bool] (fun a=>Ko N a)
theorem Ui (N:Nat):Spec Tryz.prog 140 (YF N):=Ac (C:=ctx Tryz.prog [] []) (L:=⟨[],[]⟩) (fn:=Tryz.f140) (N:=N) (Ah trivial)
def YH (N:Nat):Sig:=.of [Sq3] [.cell false .bool] (fun a=>Kq N a)
theorem Uj (N:Nat):Spec Tryz.prog 143 (YH N):=Ac (C:=ctx Tryz.prog [] []) (L:=⟨[],[]⟩) (fn:=Tryz.f143) (N:=N) (Ah trivial)
def YJ (N:Nat):Sig:=.of [Sq3] [.cell false .bool] (fun a=>Kr N a)
theorem Uk (N:Nat):Spec Tryz.prog 146 (YJ N):=Ac (C:=ctx Tryz.prog [] []) (L:=⟨[],[]⟩) (fn:=Tryz.f146) (N:=N) (Ah trivial)
def PU (N:Nat):Sig:=.of [.box [(false,.bool)]] [.cell false .bool] (fun a=>Tc N a)
theorem VX (N:Nat):Spec Tryz.prog 45 (PU N):=Ac (C:=ctx Tryz.prog [] []) (L:=⟨[],[]⟩) (fn:=Tryz.f45) (N:=N) (Ah trivial)
def Ov (N:Nat):Sig:=.of [.box [(false,.bool)],.cell false .str,.cell false (.int .i64)] [.cell false .str] (fun a=>QJ N a.1 a.2.1 a.2.2)
theorem Uo (N:Nat):Spec Tryz.prog 71 (Ov N):=Ac (C:=ctx Tryz.prog [] []) (L:=⟨[],[]⟩) (fn:=Tryz.f71) (N:=N) (Ah trivial)
def zL:List (Nat×Nrm):=[(3,⟨[0,1,6],[],[],[],[]⟩),(22,⟨[0,1,6,21,22,23],[],[],[],[]⟩),(77,⟨[1,9],[],[],[(45568,1008192),(47616,1008192),(49664,1008192),(52480,1008192)],[]⟩)]
def Acj:Lk:=⟨[(77,⟨[(1,.i),(9,.c (xo 1008192))],[(1008192,.arr 5 false (.int .u8 .nil))]⟩)],[(22,⟨[(0,.i),(1,.i),(6,.c x64),(21,.i),(22,.i),(23,.c x64)],[]⟩,[(0,⟨[(0,.i),(1,.i),(6,.c x64)],[]⟩)])]⟩
def jO (N:Nat):Sig:=.of [.cell false (.int .i64),Sq1] [.cell false .str,.cell false (.int .i64)] (fun a=>xM N a.1 a.2)
theorem qP (N:Nat):Spec Tryz.prog 164 (jO N):=Ac (C:=ctx Tryz.prog [(215,MN N)] zL) (L:=Acj) (fn:=Tryz.f164) (N:=N) (Ah ⟨O9 N,trivial⟩)
end
noncomputable section
def X9:List (Nat×Nrm):=[(3,⟨[0,3],[],[],[],[]⟩),(11,⟨[5],[([5],5,(.int .u8 .nil),1012288)],[],[(1008192,1012288)],[]⟩),(14,⟨[0,3,4],[],[],[],[]⟩),(34,⟨[0,3,5,18,19],[([5],5,(.int .u8 .nil),1008192)],[],[(41216,1008192)],[]⟩)]
def YY:Lk:=⟨[],[(14,⟨[(0,.i),(3,.c x64),(4,.c x64)],[]⟩,[(0,⟨[(0,.i),(3,.c x64)],[]⟩)]),(34,⟨[(0,.i),(3,.i),(5,.c (xo 1008192)),(18,.i),(19,.c x64)],[(1008192,.arr 5 false (.int .u8 .nil))]⟩,[(2,⟨[(5,.c (xo 1012288))],[(1012288,.arr 5 false (.int .u8 .nil))]⟩)])]⟩
def Oy (N:Nat):Sig:=.of [.cell false (.int .i64)] [.cell false .str] (fun a=>QU N a)
theorem UN (N:Nat):Spec Tryz.prog 199 (Oy N):=Ac (C:=ctx Tryz.prog [] X9) (L:=YY) (fn:=Tryz.f199) (N:=N) (Ah trivial)
def Ox (N:Nat):Sig:=.of [.cell false .bool] [.cell false .str] (fun a=>QT N a)
theorem UM (N:Nat):Spec Tryz.prog 233 (Ox N):=Ac (C:=ctx Tryz.prog [] []) (L:=⟨[],[]⟩) (fn:=Tryz.f233) (N:=N) (Ah trivial)
def LM (N:Nat):Sig:=.of [] [Sq6] (fun _=>I4 N)
theorem Oo (N:Nat):Spec Tryz.prog 19 (LM N):=Ac (C:=ctx Tryz.prog [] []) (L:=⟨[],[]⟩) (fn:=Tryz.f19) (N:=N) (Ah trivial)
def Ze:List (Nat×Nrm):=[(3,⟨[],[],[],[],[]⟩),(11,⟨[2,3,20,21],[],[],[],[]⟩),(18,⟨[2,3,20,21],[],[],[],[]⟩),(19,⟨[2,3,5,8,20,21,41,42,43],[],[],[],[]⟩),(38,⟨[2,3,5,20,21,41,42,43],[],[],[],[]⟩),(54,⟨[2,3,5,7,8,20,21,41,42,43,51,52,53],[],[],[],[]⟩)]
def dC:Lk:=⟨[],[(18,⟨[(2,.c (.c (.ptr 33280 0))),(3,.c (.c (.ptr 33536 0))),(20,.i),(21,.c x64)],[(33280,.box [(xl (.sl 177 Tq0 .nil))]),(33536,.box [(xl (.sl 177 Tq0 .nil))])]⟩,[(0,⟨[],[]⟩)]),(38,⟨[(2,.c (.c (.ptr 33280 0))),(3,.c (.c (.ptr 33536 0))),(5,.i),(20,.i),(21,.i),(41,.i),(42,.i),(43,.c x64)],[(33280,.box [(xl (.sl 177 Tq0 .nil))]),(33536,.box [(xl (.sl 177 Tq0 .nil))])]⟩,[(2,⟨[(2,.c (.c (.ptr 33280 0))),(3,.c (.c (.ptr 33536 0))),(20,.i),(21,.i)],[(33280,.box [(xl (.sl 177 Tq0 .nil))]),(33536,.box [(xl (.sl 177 Tq0 .nil))])]⟩)]),(54,⟨[(2,.c (.c (.ptr 33280 0))),(3,.c (.c (.ptr 33536 0))),(5,.i),(7,.c (.c (.ptr 34560 0))),(8,.c xb),(20,.i),(21,.i),(41,.i),(42,.i),(43,.i),(51,.i),(52,.i),(53,.c x64)],[(33280,.box [(xl (.sl 177 Tq0 .nil))]),(33536,.box [(xl (.sl 177 Tq0 .nil))]),(34560,.box [xs,x64,xs])]⟩,[(4,⟨[(2,.c (.c (.ptr 33280 0))),(3,.c (.c (.ptr 33536 0))),(5,.i),(8,.c xb),(20,.i),(21,.i),(41,.i),(42,.i),(43,.i)],[(33280,.box [(xl (.sl 177 Tq0 .nil))]),(33536,.box [(xl (.sl 177 Tq0 .nil))])]⟩)])]⟩
def JG (N:Nat):Sig:=.of [Sq7,Sq7] [.cell false .bool] (fun a=>GK N a.1 a.2)
theorem L9 (N:Nat):Spec Tryz.prog 108 (JG N):=Ac (C:=ctx Tryz.prog [] Ze) (L:=dC) (fn:=Tryz.f108) (N:=N) (Ah trivial)
def XK:List (Nat×Nrm):=[(3,⟨[],[],[],[],[]⟩),(11,⟨[2,3,16,17],[],[],[],[]⟩),(18,⟨[2,3,16,17],[],[],[],[]⟩),(38,⟨[2,3,5,16,17,38,39],[],[],[],[]⟩)]
def Zc:Lk:=⟨[],[(18,⟨[(2,.c (.c (.ptr 33280 0))),(3,.c (.c (.ptr 33536 0))),(16,.i),(17,.c x64)],[(33280,.box [(xl (.sl 177 Tq0 .nil))]),(33536,.box [(xl (.sl 177 Tq0 .nil))])]⟩,[(0,⟨[],[]⟩)]),(38,⟨[(2,.c (.c (.ptr 33280 0))),(3,.c (.c (.ptr 33536 0))),(5,.i),(16,.i),(17,.i),(38,.i),(39,.c x64)],[(33280,.box [(xl (.sl 177 Tq0 .nil))]),(33536,.box [(xl (.sl 177 Tq0 .nil))])]⟩,[(2,⟨[(2,.c (.c (.ptr 33280 0))),(3,.c (.c (.ptr 33536 0))),(16,.i),(17,.i)],[(33280,.box [(xl (.sl 177 Tq0 .nil))]),(33536,.box [(xl (.sl 177 Tq0 .nil))])]⟩)])]⟩
def Jo (N:Nat):Sig:=.of [Sq7,Sq7] [.cell false .bool] (fun a=>FQ N a.1 a.2)
theorem KX (N:Nat):Spec Tryz.prog 95 (Jo N):=Ac (C:=ctx Tryz.prog [] XK) (L:=Zc) (fn:=Tryz.f95) (N:=N) (Ah trivial)
def QA:List (Nat×Nrm):=[(3,⟨[],[],[],[],[]⟩),(18,⟨[0,1,12,13],[],[],[],[]⟩)]
def RN:Lk:=⟨[],[(18,⟨[(0,.i),(1,.i),(12,.i),(13,.c x64)],[]⟩,[(0,⟨[],[]⟩)])]⟩
def Jy (N:Nat):Sig:=.of [.cell false (.sl 60 Tq4),.cell false (.sl 60 Tq4)] [.cell false .bool] (fun a=>EP N a.1 a.2)
theorem OX (N:Nat):Spec Tryz.prog 17 (Jy N):=Ac (C:=ctx Tryz.prog [] QA) (L:=RN) (fn:=Tryz.f17) (N:=N) (Ah trivial)
def UY:List (Nat×Nrm):=[(3,⟨[],[],[],[],[]⟩),(18,⟨[0,1,12,13],[],[],[],[]⟩)]
def Ws:Lk:=⟨[],[(18,⟨[(0,.i),(1,.i),(12,.i),(13,.c x64)],[]⟩,[(0,⟨[],[]⟩)])]⟩
def LD (N:Nat):Sig:=.of [Sq1,Sq1] [.cell false .bool] (fun a=>Dq N a.1 a.2)
theorem RQ (N:Nat):Spec Tryz.prog 103 (LD N):=Ac (C:=ctx Tryz.prog [] UY) (L:=Ws) (fn:=Tryz.f103) (N:=N) (Ah trivial)
def TN:List (Nat×Nrm):=[(3,⟨[],[],[],[],[]⟩),(18,⟨[0,1,12,13],[],[],[],[]⟩)]
def Vg:Lk:=⟨[],[(18,⟨[(0,.i),(1,.i),(12,.i),(13,.c x64)],[]⟩,[(0,⟨[],[]⟩)])]⟩
def Le (N:Nat):Sig:=.of [Sq2,Sq2] [.cell false .bool] (fun a=>Ez N a.1 a.2)
theorem QD (N:Nat):Spec Tryz.prog 104 (Le N):=Ac (C:=ctx Tryz.prog [] TN) (L:=Vg) (fn:=Tryz.f104) (N:=N) (Ah trivial)
end
noncomputable section
def He (N:Nat):Sig:=.of [Sq9,.cell false (.int .i64)] [Sq5,.cell false .bool] (fun a=>DK N a.1 a.2)
theorem Ic (N:Nat):Spec Tryz.prog 173 (He N):=Ac (C:=ctx Tryz.prog [] []) (L:=⟨[],[]⟩) (fn:=Tryz.f173) (N:=N) (Ah trivial)
def Ed (N:Nat):Sig:=.of [Sq9] [.cell false (.int .i64)] (fun a=>BF N a)
theorem DY (N:Nat):Spec Tryz.prog 176 (Ed N):=Ac (C:=ctx Tryz.prog [] []) (L:=⟨[],[]⟩) (fn:=Tryz.f176) (N:=N) (Ah trivial)
def TC (N:Nat):Sig:=.of [.cell false .str] [.cell false .bool,.cell false (.int .i64)] (fun a=>KO N a)
theorem YV (N:Nat):Spec Tryz.prog 234 (TC N):=Ac (C:=ctx Tryz.prog [] []) (L:=⟨[],[]⟩) (fn:=Tryz.f234) (N:=N) (Ah trivial)
def iK:List (Nat×Nrm):=[(3,⟨[4],[],[],[],[]⟩),(30,⟨[0,4,42,43],[],[],[],[]⟩)]
def lS:Lk:=⟨[],[(30,⟨[(0,.i),(4,.c x64),(42,.i),(43,.c x64)],[]⟩,[(0,⟨[(4,.c x64)],[]⟩)])]⟩
def TD (N:Nat):Sig:=.of [.cell false .str] [.cell false (.int .i64),.cell false (.int .i64)] (fun a=>II N a)
theorem YW (N:Nat):Spec Tryz.prog 235 (TD N):=Ac (C:=ctx Tryz.prog [] iK [] [] [] [8,12,16,20,21,25,29,30,31,32]) (L:=lS) (fn:=Tryz.f235) (N:=N) (Ah trivial)
def XA (N:Nat):Sig:=.of [.cell false .str,.cell false (.int .i64)] [.cell false .bool] (fun a=>KP N a.1 a.2)
theorem iM (N:Nat):Spec Tryz.prog 264 (XA N):=Ac (C:=ctx Tryz.prog [] []) (L:=⟨[],[]⟩) (fn:=Tryz.f264) (N:=N) (Ah trivial)
def iL (N:Nat):Sig:=.of [.cell false .str,.cell false (.int .i64)] [.cell false .bool] (fun a=>MK N a.1 a.2)
theorem oZ (N:Nat):Spec Tryz.prog 224 (iL N):=Ac (C:=ctx Tryz.prog [] []) (L:=⟨[],[]⟩) (fn:=Tryz.f224) (N:=N) (Ah trivial)
def EG (N:Nat):Sig:=.of [Sq9] [.cell false (.int .i64)] (fun a=>Du N a)
theorem EL (N:Nat):Spec Tryz.prog 85 (EG N):=Ac (C:=ctx Tryz.prog [] []) (L:=⟨[],[]⟩) (fn:=Tryz.f85) (N:=N) (Ah trivial)
def PT (N:Nat):Sig:=.of [Sq9] [Sq5,.cell false (.int .i64)] (fun a=>MG N a)
theorem VV (N:Nat):Spec Tryz.prog 221 (PT N):=Ac (C:=ctx Tryz.prog [] []) (L:=⟨[],[]⟩) (fn:=Tryz.f221) (N:=N) (Ah trivial)
end
noncomputable section
def yM:List (Nat×Nrm):=[(3,⟨[4],[([4],3,(.int .i64 .nil),1004096)],[],[(1000000,1004096)],[]⟩),(26,⟨[4,18,19,20],[([4],3,(.int .i64 .nil),1000000)],[],[(40704,1000000)],[]⟩)]
def Ab7:Lk:=⟨[],[(26,⟨[(4,.c (xo 1000000)),(18,.i),(19,.i),(20,.c x64)],[(1000000,.arr 3 false (.int .i64 .nil))]⟩,[(0,⟨[(4,.c (xo 1004096))],[(1004096,.arr 3 false (.int .i64 .nil))]⟩)])]⟩
def gX (N:Nat):Sig:=.of [.cell false .str] [Sq0] (fun a=>UK N a)
theorem oO (N:Nat):Spec Tryz.prog 204 (gX N):=Ac (C:=ctx Tryz.prog [(242,Ls N),(243,nS N),(244,gY N)] yM) (L:=Ab7) (fn:=Tryz.f204) (N:=N) (Ah ⟨Yn N,vP N,oU N,trivial⟩)
def eG:List (Nat×Nrm):=[(3,⟨[2],[],[],[],[]⟩),(10,⟨[0,2,6,7,8],[],[],[],[]⟩)]
def kG:Lk:=⟨[],[(10,⟨[(0,.i),(2,.c (.c (.ptr 33280 0))),(6,.i),(7,.i),(8,.c x64)],[(33280,.box [(.c (.str ([]:Bs))),(.c (.int .i64 0)),(.c (.fn 0)),(.c (.fn 0)),(.c (.fn 0))])]⟩,[(0,⟨[(2,.c (.c (.ptr 33280 0)))],[(33280,.box [(.c (.str ([]:Bs))),(.c (.int .i64 0)),(.c (.fn 0)),(.c (.fn 0)),(.c (.fn 0))])]⟩)])]⟩
def LP (N:Nat):Sig:=.of [.cell false .str] [Sq4,.cell false .bool] (fun a=>I7 N a)
theorem Oq (N:Nat):Spec Tryz.prog 159 (LP N):=Ac (C:=ctx Tryz.prog [(44,IW N)] eG) (L:=kG) (fn:=Tryz.f159) (N:=N) (Ah ⟨Jm N,trivial⟩)
def zK:List (Nat×Nrm):=[(3,⟨[0,2,5,6,7,8,9],[],[],[],[]⟩),(74,⟨[0,2,5,6,7,8,9,50,51,52],[],[],[],[]⟩),(101,⟨[0,2,5,6,7,8],[],[],[],[]⟩)]
def Ach:Lk:=⟨[(101,⟨[(0,.i),(2,.c (.c (.ptr 33280 0))),(5,.c (.c (.ptr 34048 0))),(6,.i),(7,.c x64),(8,.c x64)],[(33280,.box [(.c (.int .i64 0)),(.c (.str ([]:Bs))),(.c (.str ([]:Bs)))]),(34048,.box [(.c (.int .i64 0)),(.c (.str ([]:Bs))),(.c (.str ([]:Bs)))])]⟩)],[(74,⟨[(0,.i),(2,.c (.c (.ptr 33280 0))),(5,.c (.c (.ptr 34048 0))),(6,.i),(7,.c x64),(8,.i),(9,.i),(50,.c (xo 45568)),(51,.i),(52,.c x64)],[(33280,.box [(.c (.int .i64 0)),(.c (.str ([]:Bs))),(.c (.str ([]:Bs)))]),(34048,.box [(.c (.int .i64 0)),(.c (.str ([]:Bs))),(.c (.str ([]:Bs)))]),(45568,.arr 5 false (.int .u8 .nil))]⟩,[(0,⟨[(0,.i),(2,.c (.c (.ptr 33280 0))),(5,.c (.c (.ptr 34048 0))),(6,.i),(7,.c x64),(8,.i),(9,.i)],[(33280,.box [(.c (.int .i64 0)),(.c (.str ([]:Bs))),(.c (.str ([]:Bs)))]),(34048,.box [(.c (.int .i64 0)),(.c (.str ([]:Bs))),(.c (.str ([]:Bs)))])]⟩)])]⟩
def Pn (N:Nat):Sig:=.of [.cell false .str] [Sq5,.cell false .str,.cell false (.int .i64)] (fun a=>JH N a)
theorem Oi (N:Nat):Spec Tryz.prog 251 (Pn N):=Ac (C:=ctx Tryz.prog [(279,ZG N)] zK) (L:=Ach) (fn:=Tryz.f251) (N:=N) (Ah ⟨mO N,trivial⟩)
def Xj (N n:Nat):Sig:=.of [Sq3] [.cell false .bool] (Y0 N n)
theorem eY (N:Nat):QE Tryz.prog (Xj N):=Ti (Ad:=[Sq3]) (Aq:=[.cell false .bool]) (l:=[(110,fun a=>LQ N a),(113,fun a=>LU N a),(116,fun a=>LV N a),(119,fun a=>LW N a),(122,fun a=>LX N a),(125,fun a=>G7 N a),(128,fun a=>LY N a),(131,fun a=>LZ N a),(134,fun a=>Mc N a),(137,fun a=>JZ N a),(140,fun a=>Ko N a),(143,fun a=>Kq N a),(146,fun a=>Kr N a)]) ⟨VL N,VM N,VN N,VO N,VP N,VQ N,VR N,VS N,VT N,Uh N,Ui N,Uj N,Uk N,trivial⟩
def Gs (N:Nat):Sig:=.of [.box [(false,.bool)],.cell false (.int .i64),Sq1] [.cell false .str] (fun a=>Io N a.1 a.2.1 a.2.2)
theorem Hg (N:Nat):Spec Tryz.prog 70 (Gs N):=Ac (C:=ctx Tryz.prog [(164,jO N),(71,Ov N)] []) (L:=⟨[],[]⟩) (fn:=Tryz.f70) (N:=N) (Ah ⟨qP N,Uo N,trivial⟩)
def TJ:List (Nat×Nrm):=[(3,⟨[],[],[],[],[]⟩),(18,⟨[0,1,12,13],[],[],[],[]⟩)]
def UT:Lk:=⟨[],[(18,⟨[(0,.i),(1,.i),(12,.i),(13,.c x64)],[]⟩,[(0,⟨[],[]⟩)])]⟩
def EN (N:Nat):Sig:=.of [.cell false (.sl 80 Tq1),.cell false (.sl 80 Tq1)] [.cell false .bool] (fun a=>CG N a.1 a.2)
theorem F7 (N:Nat):Spec Tryz.prog 105 (EN N):=Ac (C:=ctx Tryz.prog [(108,JG N)] TJ) (L:=UT) (fn:=Tryz.f105) (N:=N) (Ah ⟨L9 N,trivial⟩)
def RI:List (Nat×Nrm):=[(3,⟨[],[],[],[],[]⟩),(18,⟨[0,1,12,13],[],[],[],[]⟩)]
def TF:Lk:=⟨[],[(18,⟨[(0,.i),(1,.i),(12,.i),(13,.c x64)],[]⟩,[(0,⟨[],[]⟩)])]⟩
def GH (N:Nat):Sig:=.of [.cell false (.sl 80 Tq1),.cell false (.sl 80 Tq1)] [.cell false .bool] (fun a=>BN N a.1 a.2)
theorem IJ (N:Nat):Spec Tryz.prog 68 (GH N):=Ac (C:=ctx Tryz.prog [(95,Jo N)] RI) (L:=TF) (fn:=Tryz.f68) (N:=N) (Ah ⟨KX N,trivial⟩)
def Xi:List (Nat×Nrm):=[(29,⟨[8,9],[],[],[],[]⟩)]
def YN:Lk:=⟨[(29,⟨[(8,.i),(9,.c x64)],[(0,.box [(xl Tq5)])]⟩)],[]⟩
def Ot (N:Nat):Sig:=.of [Sq9,.cell false (.int .i64)] [.cell false .bool,.cell false (.int .i64)] (fun a=>Il N a.1 a.2)
theorem Um (N:Nat):Spec Tryz.prog 191 (Ot N):=Ac (C:=ctx Tryz.prog [(173,He N),(234,TC N)] Xi) (L:=YN) (fn:=Tryz.f191) (N:=N) (Ah ⟨Ic N,YV N,trivial⟩)
end
noncomputable section
def Ha (N:Nat):Sig:=.of [.cell false .str] [.cell false (.int .i64),.cell false (.int .i64)] (fun a=>DJ N a)
theorem Ib (N:Nat):Spec Tryz.prog 192 (Ha N):=Ac (C:=ctx Tryz.prog [(235,TD N)] []) (L:=⟨[],[]⟩) (fn:=Tryz.f192) (N:=N) (Ah ⟨YW N,trivial⟩)
def ZA (N:Nat):Sig:=.of [.cell false .str] [.cell false .str,.cell false (.int .i64),.cell false (.int .i64)] (fun a=>QS N a)
theorem lN (N:Nat):Spec Tryz.prog 223 (ZA N):=Ac (C:=ctx Tryz.prog [(264,XA N)] []) (L:=⟨[],[]⟩) (fn:=Tryz.f223) (N:=N) (Ah ⟨iM N,trivial⟩)
def Gq (N:Nat):Sig:=.of [Sq9,.cell false (.int .i64)] [Sq5,.cell false (.int .i64)] (fun a=>E8 N a.1 a.2)
theorem Hf (N:Nat):Spec Tryz.prog 172 (Gq N):=Ac (C:=ctx Tryz.prog [(221,PT N)] []) (L:=⟨[],[]⟩) (fn:=Tryz.f172) (N:=N) (Ah ⟨VV N,trivial⟩)
def oN:List (Nat×Nrm):=[(3,⟨[7],[([7],9,(.str .nil),1004096)],[],[(1000000,1004096)],[]⟩),(34,⟨[7,36,37,38],[([7],9,(.str .nil),1000000)],[],[(45056,1000000)],[]⟩)]
def vN:Lk:=⟨[],[(34,⟨[(7,.c (xo 1000000)),(36,.c (xo 41728)),(37,.i),(38,.c x64)],[(41728,.arr 3 false (.int .i64 .nil)),(1000000,.arr 9 false (.str .nil))]⟩,[(0,⟨[(7,.c (xo 1004096))],[(1004096,.arr 9 false (.str .nil))]⟩)])]⟩
def X6 (N:Nat):Sig:=.of [.cell false .str] [.cell false .str,.cell false (.int .i64)] (fun a=>OQ N a)
theorem gW (N:Nat):Spec Tryz.prog 237 (X6 N):=Ac (C:=ctx Tryz.prog [(268,Vz N),(269,TR N),(215,MN N)] oN) (L:=vN) (fn:=Tryz.f237) (N:=N) (Ah ⟨bT N,Zm N,O9 N,trivial⟩)
def tJ (N n:Nat):Sig:=.of [Sq1,jW] [] (AcC N n)
theorem AcD (N:Nat):QE Tryz.prog (tJ N):=Ti (Ad:=[Sq1,jW]) (Aq:=[]) (l:=[(197,fun a=>G6 N a.1 a.2)]) ⟨NT N,trivial⟩
def tK (N n:Nat):Sig:=.of [Sq1,jW] [] (AcE N n)
theorem AcF (N:Nat):QE Tryz.prog (tK N):=Ti (Ad:=[Sq1,jW]) (Aq:=[]) (l:=[(198,fun a=>G5 N a.1 a.2)]) ⟨NS N,trivial⟩
def UX:List (Nat×Nrm):=[(3,⟨[],[],[],[],[]⟩),(18,⟨[10,11,12],[],[],[],[]⟩)]
def Wj:Lk:=⟨[],[(18,⟨[(10,.i),(11,.i),(12,.c x64)],[]⟩,[(0,⟨[],[]⟩)])]⟩
def LC (N:Nat):Sig:=.of [.cell false (.sl 111 Tq2)] [.cell false (.int .i64)] (fun a=>Ef N a)
theorem RJ (N:Nat):Spec Tryz.prog 25 (LC N):=Ac (C:=ctx Tryz.prog [(62,IP N)] UX [] [] [] [20,24,25,29,35,36]) (L:=Wj) (fn:=Tryz.f25) (N:=N) (Ah ⟨JU N,trivial⟩)
def mG:List (Nat×Nrm):=[(3,⟨[],[],[],[],[]⟩),(10,⟨[0,5,6,7],[],[],[],[]⟩)]
def qB:Lk:=⟨[],[(10,⟨[(0,.i),(5,.i),(6,.i),(7,.c x64)],[]⟩,[(0,⟨[],[]⟩)])]⟩
def V7 (N:Nat):Sig:=.of [.cell false .str] [.cell false .bool] (fun a=>Na N a)
theorem dF (N:Nat):Spec Tryz.prog 37 (V7 N):=Ac (C:=ctx Tryz.prog [(107,V8 N)] mG) (L:=qB) (fn:=Tryz.f37) (N:=N) (Ah ⟨dH N,trivial⟩)
end
noncomputable section
def Jt (N:Nat):Sig:=.of [.cell false .str] [.cell false .bool] (fun a=>ES N a)
theorem Jf (N:Nat):Spec Tryz.prog 156 (Jt N):=Ac (C:=ctx Tryz.prog [(204,gX N)] []) (L:=⟨[],[]⟩) (fn:=Tryz.f156) (N:=N) (Ah ⟨oO N,trivial⟩)
def Yq (N:Nat):Sig:=.of [.cell false .str] [Sq5,.cell false (.int .i64)] (fun a=>TU N a)
theorem Yr (N:Nat):Spec Tryz.prog 207 (Yq N):=Ac (C:=ctx Tryz.prog [(251,Pn N)] []) (L:=⟨[],[]⟩) (fn:=Tryz.f207) (N:=N) (Ah ⟨Oi N,trivial⟩)
def qQ:List (Nat×Nrm):=[(3,⟨[],[],[],[],[]⟩),(18,⟨[1,5],[],[],[],[]⟩)]
def xN:Lk:=⟨[],[(18,⟨[(1,.i),(5,.c xs)],[]⟩,[(0,⟨[],[]⟩)])]⟩
def Oj (N n:Nat):Sig:=.of [Sq5,.cell false (.int .i64)] [.cell false (.int .i64)] (fun a=>Hu N n a.1 a.2)
theorem Qv (N:Nat): ∀ n,Spec Tryz.prog 208 (Oj N n)
  | 0=>Yk (C:=ctx Tryz.prog [] []) (fn:=Tryz.f208) (Ah (gs:=[]) trivial) (by kernel_rfl) (by kernel_rfl)
  | n+1=>Ac (C:=ctx Tryz.prog ((208,Oj N n)::[(251,Pn N)]) qQ) (L:=xN) (fn:=Tryz.f208) (N:=N) (Ah ⟨Qv N n,⟨Oi N,trivial⟩⟩)
def Yu (N:Nat):Sig:=Oj N N
theorem jP (N:Nat):Spec Tryz.prog 208 (Yu N):=Qv N N
def PW (N:Nat):Sig:=.of [.box [(false,.bool)],Sq1] [.cell false .str] (fun a=>Tf N a.1 a.2)
theorem VZ (N:Nat):Spec Tryz.prog 75 (PW N):=Ac (C:=ctx Tryz.prog [(70,Gs N)] []) (L:=⟨[],[]⟩) (fn:=Tryz.f75) (N:=N) (Ah ⟨Hg N,trivial⟩)
def PV (N:Nat):Sig:=.of [.box [(false,.bool)],.cell false (.int .i64)] [.cell false .str] (fun a=>Td N a.1 a.2)
theorem VY (N:Nat):Spec Tryz.prog 189 (PV N):=Ac (C:=ctx Tryz.prog [(199,Oy N),(70,Gs N)] []) (L:=⟨[],[]⟩) (fn:=Tryz.f189) (N:=N) (Ah ⟨UN N,Hg N,trivial⟩)
def Ou (N:Nat):Sig:=.of [.box [(false,.bool)],.cell false (.int .i64),.cell false .bool] [.cell false .str] (fun a=>QI N a.1 a.2.1 a.2.2)
theorem Un (N:Nat):Spec Tryz.prog 190 (Ou N):=Ac (C:=ctx Tryz.prog [(233,Ox N),(70,Gs N)] []) (L:=⟨[],[]⟩) (fn:=Tryz.f190) (N:=N) (Ah ⟨UM N,Hg N,trivial⟩)
def Wq:List (Nat×Nrm):=[(3,⟨[],[],[],[],[]⟩),(18,⟨[0,1,12,13],[],[],[],[]⟩)]
def XR:Lk:=⟨[],[(18,⟨[(0,.i),(1,.i),(12,.i),(13,.c x64)],[]⟩,[(0,⟨[],[]⟩)])]⟩
def IL (N:Nat):Sig:=.of [.cell false (.sl 111 Tq2),.cell false (.sl 111 Tq2)] [.cell false .bool] (fun a=>DC N a.1 a.2)
theorem JR (N:Nat):Spec Tryz.prog 38 (IL N):=Ac (C:=ctx Tryz.prog [(105,EN N),(108,JG N)] Wq [] [] [] [28,40,41,53,54,67]) (L:=XR) (fn:=Tryz.f38) (N:=N) (Ah ⟨F7 N,L9 N,trivial⟩)
def KZ (N:Nat):Sig:=.of [Sq8,Sq8] [.cell false .bool] (fun a=>FV N a.1 a.2)
theorem QB (N:Nat):Spec Tryz.prog 106 (KZ N):=Ac (C:=ctx Tryz.prog [(105,EN N)] []) (L:=⟨[],[]⟩) (fn:=Tryz.f106) (N:=N) (Ah ⟨F7 N,trivial⟩)
end
noncomputable section
def mF:List (Nat×Nrm):=[(3,⟨[3],[],[],[],[]⟩),(14,⟨[3,57,58,59],[],[],[],[]⟩)]
def pX:Lk:=⟨[],[(14,⟨[(3,.c x64),(57,.c (xo 47360)),(58,.i),(59,.c x64)],[(47360,.arr 4 false (.bool .nil))]⟩,[(0,⟨[(3,.c x64)],[]⟩)])]⟩
def V6 (N:Nat):Sig:=.of [Sq3] [.cell false (.int .i64)] (fun a=>Jw N a)
theorem dE (N:Nat):Spec Tryz.prog 64 (V6 N):=Ac (C:=ctx Tryz.prog [] mF) (L:=pX) (fn:=Tryz.f64) (N:=N) (Ah trivial)
def qA:List (Nat×Nrm):=[(3,⟨[4],[],[],[],[]⟩),(10,⟨[1,4,8,9,10],[],[],[],[]⟩)]
def wP:Lk:=⟨[],[(10,⟨[(1,.i),(4,.c (.c (.ptr 33792 0))),(8,.i),(9,.i),(10,.c x64)],[(33792,.box [(.c (.str ([]:Bs))),(.c (.bool false)),(.c (.str ([]:Bs)))])]⟩,[(0,⟨[(4,.c (.c (.ptr 33792 0)))],[(33792,.box [(.c (.str ([]:Bs))),(.c (.bool false)),(.c (.str ([]:Bs)))])]⟩)])]⟩
def Qm (N:Nat):Sig:=.of [.cell false (.sl 60 Tq4),.cell false .str] [Aaq,.cell false .bool] (fun a=>EO N a.1 a.2)
theorem Rf (N:Nat):Spec Tryz.prog 66 (Qm N):=Ac (C:=ctx Tryz.prog [] qA) (L:=wP) (fn:=Tryz.f66) (N:=N) (Ah trivial)
def pR:List (Nat×Nrm):=[(3,⟨[0,2,5,6,8],[],[],[],[]⟩),(70,⟨[0,2,5,6,8,9],[],[],[],[]⟩),(97,⟨[0,2,5,6,7],[],[],[],[]⟩)]
def wJ:Lk:=⟨[(97,⟨[(0,.i),(2,.c (.c (.ptr 33280 0))),(5,.c (.c (.ptr 34048 0))),(6,.c x64),(7,.c x64)],[(33280,.box [(.c (.int .i64 0)),(.c (.str ([]:Bs))),(.c (.str ([]:Bs)))]),(34048,.box [(.c (.int .i64 0)),(.c (.str ([]:Bs))),(.c (.str ([]:Bs)))])]⟩)],[(70,⟨[(0,.i),(2,.c (.c (.ptr 33280 0))),(5,.c (.c (.ptr 34048 0))),(6,.c x64),(8,.i),(9,.c x64)],[(33280,.box [(.c (.int .i64 0)),(.c (.str ([]:Bs))),(.c (.str ([]:Bs)))]),(34048,.box [(.c (.int .i64 0)),(.c (.str ([]:Bs))),(.c (.str ([]:Bs)))])]⟩,[(0,⟨[(0,.i),(2,.c (.c (.ptr 33280 0))),(5,.c (.c (.ptr 34048 0))),(6,.c x64),(8,.i)],[(33280,.box [(.c (.int .i64 0)),(.c (.str ([]:Bs))),(.c (.str ([]:Bs)))]),(34048,.box [(.c (.int .i64 0)),(.c (.str ([]:Bs))),(.c (.str ([]:Bs)))])]⟩)])]⟩
def KT (N:Nat):Sig:=.of [.cell false .str] [Sq5,.cell false .str,.cell false (.int .i64)] (fun a=>Hq N a)
theorem KU (N:Nat):Spec Tryz.prog 169 (KT N):=Ac (C:=ctx Tryz.prog [] pR) (L:=wJ) (fn:=Tryz.f169) (N:=N) (Ah trivial)
def XQ (N:Nat):Sig:=.of [] [Ah1] (fun _=>OW N)
theorem jA (N:Nat):Spec Tryz.prog 20 (XQ N):=Ac (C:=ctx Tryz.prog [] []) (L:=⟨[],[]⟩) (fn:=Tryz.f20) (N:=N) (Ah trivial)
def XZ:List (Nat×Nrm):=[(29,⟨[1,4,5],[],[],[],[]⟩)]
def Zj:Lk:=⟨[(29,⟨[(1,.c (.c (.ptr 33024 0))),(4,.i),(5,.c xb)],[(33024,.box [xs,xb,xs])]⟩)],[]⟩
def O7 (N:Nat):Sig:=.of [Aaq] [.cell false .bool] (fun a=>AB N a)
theorem Vf (N:Nat):Spec Tryz.prog 101 (O7 N):=Ac (C:=ctx Tryz.prog [] XZ) (L:=Zj) (fn:=Tryz.f101) (N:=N) (Ah trivial)
def FT (N:Nat):Sig:=.of [sK] [.cell false (.int .i64)] (fun a=>Dh N a)
theorem GI (N:Nat):Spec Tryz.prog 94 (FT N):=Ac (C:=ctx Tryz.prog [] []) (L:=⟨[],[]⟩) (fn:=Tryz.f94) (N:=N) (Ah trivial)
def XD (N:Nat):Sig:=.of [.cell false .str] [.cell false .str,.cell false (.int .i64),.cell false (.int .i64)] (fun a=>OU N a)
theorem iT (N:Nat):Spec Tryz.prog 266 (XD N):=Ac (C:=ctx Tryz.prog [] [] [] [] [] [8,12,13,17,21,33,34,35]) (L:=⟨[],[]⟩) (fn:=Tryz.f266) (N:=N) (Ah trivial)
def IK (N:Nat):Sig:=.of [sK,.cell false (.int .i64)] [Sq5,.cell false .bool] (fun a=>Fj N a.1 a.2)
theorem JQ (N:Nat):Spec Tryz.prog 92 (IK N):=Ac (C:=ctx Tryz.prog [] []) (L:=⟨[],[]⟩) (fn:=Tryz.f92) (N:=N) (Ah trivial)
end
noncomputable section
def QW (N:Nat):Sig:=.of [.cell false .str] [.cell false .bool,.cell false (.int .i64)] (fun a=>J6 N a)
theorem XE (N:Nat):Spec Tryz.prog 228 (QW N):=Ac (C:=ctx Tryz.prog [] []) (L:=⟨[],[]⟩) (fn:=Tryz.f228) (N:=N) (Ah trivial)
def cZ:List (Nat×Nrm):=[(3,⟨[4],[],[],[],[]⟩),(33,⟨[0,4],[],[],[],[]⟩),(38,⟨[0,4,5],[],[],[],[]⟩)]
def iV:Lk:=⟨[(33,⟨[(0,.i),(4,.c (xi .u64))],[]⟩)],[(38,⟨[(0,.i),(4,.c (xi .u64)),(5,.c x64)],[]⟩,[(0,⟨[(4,.c (xi .u64))],[]⟩)])]⟩
def QY (N:Nat):Sig:=.of [.cell false .str] [.cell false (.int .i64),.cell false (.int .i64)] (fun a=>H8 N a)
theorem XG (N:Nat):Spec Tryz.prog 231 (QY N):=Ac (C:=ctx Tryz.prog [] cZ [] [] [] [9,13,17,21,22,26,30,31,32,33]) (L:=iV) (fn:=Tryz.f231) (N:=N) (Ah trivial)
def Qk (N n:Nat):Sig:=.of [.cell false (.int .i64)] [.cell false .str] (fun a=>GU N n a)
theorem QX (N:Nat): ∀ n,Spec Tryz.prog 227 (Qk N n)
  | 0=>Yk (C:=ctx Tryz.prog [] []) (fn:=Tryz.f227) (Ah (gs:=[]) trivial) (by kernel_rfl) (by kernel_rfl)
  | n+1=>Ac (C:=ctx Tryz.prog ((227,Qk N n)::[]) []) (L:=⟨[],[]⟩) (fn:=Tryz.f227) (N:=N) (Ah ⟨QX N n,trivial⟩)
def ZE (N:Nat):Sig:=Qk N N
theorem lW (N:Nat):Spec Tryz.prog 227 (ZE N):=QX N N
def Ih (N:Nat):Sig:=.of [sK,.cell false (.int .i64)] [Sq5,.cell false (.int .i64)] (fun a=>Ee N a.1 a.2)
theorem Jv (N:Nat):Spec Tryz.prog 230 (Ih N):=Ac (C:=ctx Tryz.prog [] []) (L:=⟨[],[]⟩) (fn:=Tryz.f230) (N:=N) (Ah trivial)
end
noncomputable section
def Es (N:Nat):Sig:=.of [.cell false .str] [.cell false .bool] (fun a=>A7 N a)
theorem Em (N:Nat):Spec Tryz.prog 65 (Es N):=Ac (C:=ctx Tryz.prog [(162,XJ N)] []) (L:=⟨[],[]⟩) (fn:=Tryz.f65) (N:=N) (Ah ⟨iZ N,trivial⟩)
def RH (N:Nat):Sig:=.of [.cell false .str] [Sq5,.cell false (.int .i64)] (fun a=>NG N a)
theorem TE (N:Nat):Spec Tryz.prog 81 (RH N):=Ac (C:=ctx Tryz.prog [(169,KT N)] []) (L:=⟨[],[]⟩) (fn:=Tryz.f81) (N:=N) (Ah ⟨KU N,trivial⟩)
def mD:List (Nat×Nrm):=[(3,⟨[],[],[],[],[]⟩),(18,⟨[1,5],[],[],[],[]⟩)]
def pW:Lk:=⟨[],[(18,⟨[(1,.i),(5,.c xs)],[]⟩,[(0,⟨[],[]⟩)])]⟩
def ML (N n:Nat):Sig:=.of [Sq5,.cell false (.int .i64)] [.cell false (.int .i64)] (fun a=>Gj N n a.1 a.2)
theorem Oz (N:Nat): ∀ n,Spec Tryz.prog 163 (ML N n)
  | 0=>Yk (C:=ctx Tryz.prog [] []) (fn:=Tryz.f163) (Ah (gs:=[]) trivial) (by kernel_rfl) (by kernel_rfl)
  | n+1=>Ac (C:=ctx Tryz.prog ((163,ML N n)::[(169,KT N)]) mD) (L:=pW) (fn:=Tryz.f163) (N:=N) (Ah ⟨Oz N n,⟨KU N,trivial⟩⟩)
def V5 (N:Nat):Sig:=ML N N
theorem dB (N:Nat):Spec Tryz.prog 163 (V5 N):=Oz N N
def pO:List (Nat×Nrm):=[(3,⟨[4],[([4],123,Tq5,1004096)],[],[(1000000,1004096)],[]⟩),(10,⟨[0,4],[([4],123,Tq5,1000000)],[],[(38656,1000000)],[]⟩)]
def wH:Lk:=⟨[],[(10,⟨[(0,.c xs),(4,.c (xo 1000000))],[(1000000,.arr 123 false Tq5)]⟩,[(0,⟨[(4,.c (xo 1004096))],[(1004096,.arr 123 false Tq5)]⟩)])]⟩
def XH (N:Nat):Sig:=.of [.cell false .str] [.cell false (.sl 123 Tq5),.cell false (.int .i64)] (fun a=>OV N a)
theorem iY (N:Nat):Spec Tryz.prog 83 (XH N):=Ac (C:=ctx Tryz.prog [(169,KT N)] pO) (L:=wH) (fn:=Tryz.f83) (N:=N) (Ah ⟨KU N,trivial⟩)
def lY:List (Nat×Nrm):=[(3,⟨[8],[],[],[],[]⟩),(46,⟨[4,7,8,9],[],[],[],[]⟩)]
def pK:Lk:=⟨[],[(46,⟨[(4,.i),(7,.i),(8,.c x64),(9,.c x64)],[]⟩,[(0,⟨[(8,.c x64)],[]⟩)])]⟩
def V3 (N:Nat):Sig:=.of [.cell false .str] [.cell false (.int .i64),.cell false (.int .i64)] (fun a=>MZ N a)
theorem bZ (N:Nat):Spec Tryz.prog 226 (V3 N):=Ac (C:=ctx Tryz.prog [(266,XD N)] lY) (L:=pK) (fn:=Tryz.f226) (N:=N) (Ah ⟨iT N,trivial⟩)
def XX (N:Nat):Sig:=.of [sK,.cell false (.int .i64)] [.cell false .bool,.cell false (.int .i64)] (fun a=>OY N a.1 a.2)
theorem jB (N:Nat):Spec Tryz.prog 181 (XX N):=Ac (C:=ctx Tryz.prog [(92,IK N),(228,QW N)] []) (L:=⟨[],[]⟩) (fn:=Tryz.f181) (N:=N) (Ah ⟨JQ N,XE N,trivial⟩)
def Oe (N:Nat):Sig:=.of [.cell false .str] [.cell false (.int .i64),.cell false (.int .i64)] (fun a=>Jz N a)
theorem Qp (N:Nat):Spec Tryz.prog 185 (Oe N):=Ac (C:=ctx Tryz.prog [(231,QY N)] []) (L:=⟨[],[]⟩) (fn:=Tryz.f185) (N:=N) (Ah ⟨XG N,trivial⟩)
end
noncomputable section
def zJ:List (Nat×Nrm):=[(3,⟨[4],[([4],123,Tq5,1004096)],[],[(1000000,1004096)],[]⟩),(10,⟨[0,4],[([4],123,Tq5,1000000)],[],[(38400,1000000)],[]⟩)]
def Acf:Lk:=⟨[],[(10,⟨[(0,.c xs),(4,.c (xo 1000000))],[(1000000,.arr 123 false Tq5)]⟩,[(0,⟨[(4,.c (xo 1004096))],[(1004096,.arr 123 false Tq5)]⟩)])]⟩
def jL (N:Nat):Sig:=.of [.cell false .str] [.cell false (.sl 123 Tq5),.cell false (.int .i64)] (fun a=>Vt N a)
theorem qO (N:Nat):Spec Tryz.prog 220 (jL N):=Ac (C:=ctx Tryz.prog [(251,Pn N)] zJ) (L:=Acf) (fn:=Tryz.f220) (N:=N) (Ah ⟨Oi N,trivial⟩)
def oW:List (Nat×Nrm):=[(3,⟨[8],[],[],[],[]⟩),(46,⟨[4,8,35,36],[],[],[],[]⟩)]
def vV:Lk:=⟨[],[(46,⟨[(4,.i),(8,.c x64),(35,.i),(36,.c x64)],[]⟩,[(0,⟨[(8,.c x64)],[]⟩)])]⟩
def X8 (N:Nat):Sig:=.of [.cell false .str] [.cell false (.int .i64),.cell false (.int .i64)] (fun a=>OT N a)
theorem iI (N:Nat):Spec Tryz.prog 175 (X8 N):=Ac (C:=ctx Tryz.prog [(223,ZA N),(224,iL N)] oW) (L:=vV) (fn:=Tryz.f175) (N:=N) (Ah ⟨lN N,oZ N,trivial⟩)
def Ik (N:Nat):Sig:=.of [Sq9] [.cell false .str,.cell false (.int .i64)] (fun a=>FD N a)
theorem I8 (N:Nat):Spec Tryz.prog 195 (Ik N):=Ac (C:=ctx Tryz.prog [(172,Gq N),(237,X6 N)] []) (L:=⟨[],[]⟩) (fn:=Tryz.f195) (N:=N) (Ah ⟨Hf N,gW N,trivial⟩)
def XW:List (Nat×Nrm):=[(3,⟨[],[],[],[],[]⟩),(11,⟨[0,12,13,14],[],[],[],[]⟩),(18,⟨[0,12,13,14],[],[],[],[]⟩),(38,⟨[0,5,6,7,12,13,14],[],[],[],[]⟩)]
def Zh:Lk:=⟨[],[(18,⟨[(0,.i),(12,.i),(13,.i),(14,.c x64)],[]⟩,[(0,⟨[],[]⟩)]),(38,⟨[(0,.i),(5,.i),(6,.i),(7,.c x64),(12,.i),(13,.i),(14,.i)],[]⟩,[(2,⟨[(0,.i),(12,.i),(13,.i),(14,.i)],[]⟩)])]⟩
def O6 (N:Nat):Sig:=.of [Sq1,.cell false (.int .i64)] [.cell false (.int .i64)] (fun a=>FW N a.1 a.2)
theorem Vb (N:Nat):Spec Tryz.prog 60 (O6 N):=Ac (C:=ctx Tryz.prog [(65,Es N)] XW) (L:=Zh) (fn:=Tryz.f60) (N:=N) (Ah ⟨Em N,trivial⟩)
def RS:List (Nat×Nrm):=[(3,⟨[],[],[],[],[]⟩),(11,⟨[0,9,10,11],[],[],[],[]⟩),(18,⟨[0,9,10,11],[],[],[],[]⟩),(38,⟨[0,3,4,5,9,10,11],[],[],[],[]⟩)]
def TL:Lk:=⟨[],[(18,⟨[(0,.i),(9,.i),(10,.i),(11,.c x64)],[]⟩,[(0,⟨[],[]⟩)]),(38,⟨[(0,.i),(3,.i),(4,.c (.c (.ptr 33792 0))),(5,.c x64),(9,.i),(10,.i),(11,.i)],[(33792,.box [xs,xs])]⟩,[(2,⟨[(0,.i),(9,.i),(10,.i),(11,.i)],[]⟩)])]⟩
def JS (N:Nat):Sig:=.of [Sq2] [.cell false (.int .i64)] (fun a=>Fv N a)
theorem Qo (N:Nat):Spec Tryz.prog 61 (JS N):=Ac (C:=ctx Tryz.prog [(65,Es N)] RS) (L:=TL) (fn:=Tryz.f61) (N:=N) (Ah ⟨Em N,trivial⟩)
def Oa (N:Nat):Sig:=.of [.cell false .str] [.cell false (.int .i64)] (fun a=>Ju N a)
theorem Qj (N:Nat):Spec Tryz.prog 67 (Oa N):=Ac (C:=ctx Tryz.prog [(81,RH N),(163,V5 N)] []) (L:=⟨[],[]⟩) (fn:=Tryz.f67) (N:=N) (Ah ⟨TE N,dB N,trivial⟩)
def Ql (N:Nat):Sig:=.of [Sq5,.cell false (.int .i64)] [Agm,.cell false (.int .i64)] (fun a=>Jg N a.1 a.2)
theorem QZ (N:Nat):Spec Tryz.prog 89 (Ql N):=Ac (C:=ctx Tryz.prog [(83,XH N)] []) (L:=⟨[],[]⟩) (fn:=Tryz.f89) (N:=N) (Ah ⟨iY N,trivial⟩)
def Og (N:Nat):Sig:=.of [.cell false .str,.cell false (.int .i64)] [Sq5,.cell false (.int .i64)] (fun a=>ET N a.1 a.2)
theorem Qq (N:Nat):Spec Tryz.prog 177 (Og N):=Ac (C:=ctx Tryz.prog [(81,RH N)] []) (L:=⟨[],[]⟩) (fn:=Tryz.f177) (N:=N) (Ah ⟨TE N,trivial⟩)
end
noncomputable section
def VF:List (Nat×Nrm):=[(3,⟨[],[],[],[],[]⟩),(11,⟨[0,13,14,15],[],[],[],[]⟩),(18,⟨[0,13,14,15],[],[],[],[]⟩),(38,⟨[0,6,13,14,15,25,26,27],[],[],[],[]⟩)]
def WR:Lk:=⟨[],[(18,⟨[(0,.i),(13,.i),(14,.i),(15,.c x64)],[]⟩,[(0,⟨[],[]⟩)]),(38,⟨[(0,.i),(6,.i),(13,.i),(14,.i),(15,.i),(25,.i),(26,.i),(27,.c x64)],[]⟩,[(2,⟨[(0,.i),(13,.i),(14,.i),(15,.i)],[]⟩)])]⟩
def Nr (N:Nat):Sig:=.of [Sq1,.cell false (.int .i64)] [.cell false (.int .i64)] (fun a=>Fa N a.1 a.2)
theorem Su (N:Nat):Spec Tryz.prog 54 (Nr N):=Ac (C:=ctx Tryz.prog [(156,Jt N)] VF) (L:=WR) (fn:=Tryz.f54) (N:=N) (Ah ⟨Jf N,trivial⟩)
def PL:List (Nat×Nrm):=[(3,⟨[],[],[],[],[]⟩),(11,⟨[0,10,11,12],[],[],[],[]⟩),(18,⟨[0,10,11,12],[],[],[],[]⟩),(38,⟨[0,4,10,11,12,29,30,31],[],[],[],[]⟩)]
def Qw:Lk:=⟨[],[(18,⟨[(0,.i),(10,.i),(11,.i),(12,.c x64)],[]⟩,[(0,⟨[],[]⟩)]),(38,⟨[(0,.i),(4,.c (.c (.ptr 33792 0))),(10,.i),(11,.i),(12,.i),(29,.i),(30,.i),(31,.c x64)],[(33792,.box [xs,xs])]⟩,[(2,⟨[(0,.i),(10,.i),(11,.i),(12,.i)],[]⟩)])]⟩
def Jk (N:Nat):Sig:=.of [Sq2] [.cell false (.int .i64)] (fun a=>E5 N a)
theorem NQ (N:Nat):Spec Tryz.prog 55 (Jk N):=Ac (C:=ctx Tryz.prog [(156,Jt N)] PL) (L:=Qw) (fn:=Tryz.f55) (N:=N) (Ah ⟨Jf N,trivial⟩)
def RY (N:Nat):Sig:=.of [.cell false .str] [.cell false (.int .i64)] (fun a=>NJ N a)
theorem TT (N:Nat):Spec Tryz.prog 160 (RY N):=Ac (C:=ctx Tryz.prog [(207,Yq N),(208,Yu N)] []) (L:=⟨[],[]⟩) (fn:=Tryz.f160) (N:=N) (Ah ⟨Yr N,jP N,trivial⟩)
def VK:List (Nat×Nrm):=[(17,⟨[0,3,5],[],[],[],[]⟩)]
def Xb:Lk:=⟨[(17,⟨[(0,.c (.c (.ptr 0 0))),(3,.c (.c (.ptr 33536 0))),(5,.c xs)],[(0,.box [xb]),(33536,.box [xb,xb,x64,x64,(xl (.str .nil)),(xl (.str .nil)),(xl (.str (.str .nil))),x64,x64,x64,(xl Tq1),xb,(xl Tq1),(xl Tq1),xs,xs,(xl Tq2),(xl Tq2),(xl Tq4)])]⟩)],[]⟩
def Xd (N:Nat):Sig:=.of [.box [(false,.bool)],Sq3] [.cell false .str] (fun a=>JB N a.1 a.2)
theorem SQ (N:Nat):Spec Tryz.prog 111 (Xd N):=Ac (C:=ctx Tryz.prog [(189,PV N),(190,Ou N),(75,PW N)] VK) (L:=Xb) (fn:=Tryz.f111) (N:=N) (Ah ⟨VY N,Un N,VZ N,trivial⟩)
def UD:List (Nat×Nrm):=[(3,⟨[],[],[],[],[]⟩),(18,⟨[0,1,11,12],[],[],[],[]⟩)]
def We:Lk:=⟨[],[(18,⟨[(0,.i),(1,.i),(11,.i),(12,.c x64)],[]⟩,[(0,⟨[],[]⟩)])]⟩
def L8 (N:Nat):Sig:=.of [.cell false (.sl 111 Tq2),.cell false (.sl 111 Tq2)] [.cell false .bool] (fun a=>EH N a.1 a.2)
theorem RD (N:Nat):Spec Tryz.prog 30 (L8 N):=Ac (C:=ctx Tryz.prog [(38,IL N),(68,GH N),(95,Jo N)] UD) (L:=We) (fn:=Tryz.f30) (N:=N) (Ah ⟨JR N,IJ N,KX N,trivial⟩)
def Qn (N:Nat):Sig:=.of [Sq3,Sq3] [.cell false .bool] (fun a=>Jh N a.1 a.2)
theorem Wp (N:Nat):Spec Tryz.prog 36 (Qn N):=Ac (C:=ctx Tryz.prog [(103,LD N),(104,Le N),(105,EN N),(106,KZ N),(38,IL N),(17,Jy N)] [] [] [] [] [10,16,17,23,24,30,31,37,38,44,45,51,52,58,59,65,66,72,73,79,80,86,87,93,94,100,101,107,108,114,115,121,122,128]) (L:=⟨[],[]⟩) (fn:=Tryz.f36) (N:=N) (Ah ⟨RQ N,QD N,F7 N,QB N,JR N,OX N,trivial⟩)
def Nv (N:Nat):Sig:=.of [.cell false .str,.cell false (.int .i64)] [Sq5,.cell false (.int .i64)] (fun a=>MC N a.1 a.2)
theorem Ku (N:Nat):Spec Tryz.prog 170 (Nv N):=Ac (C:=ctx Tryz.prog [(207,Yq N)] []) (L:=⟨[],[]⟩) (fn:=Tryz.f170) (N:=N) (Ah ⟨Yr N,trivial⟩)
def IY (N:Nat):Alt:=.of [.cell false .str] [Sq9,.cell false (.int .i64)] [.cell false .ptr,.cell false (.int .i64)] (fun a=>IB N a)
theorem PR (N:Nat):Spec Tryz.prog 171 (IY N).1/\Spec Tryz.prog 171 (IY N).2.1:=OC (C:=ctx Tryz.prog [(220,jL N)] []) (L:=⟨[],[]⟩) (fn:=Tryz.f171) (N:=N) (Ah ⟨qO N,trivial⟩) (by kernel_rfl) (by kernel_rfl) (fun a=>by kernel_rfl)
end
noncomputable section
def Qz:List (Nat×Nrm):=[(3,⟨[],[],[],[],[]⟩),(10,⟨[0,10,11,12],[],[],[],[]⟩),(11,⟨[0,4,10,11,12],[],[],[],[]⟩),(42,⟨[0,4,10,11,12,30,31,32],[],[],[],[]⟩)]
def Rl:Lk:=⟨[],[(10,⟨[(0,.i),(10,.i),(11,.i),(12,.c x64)],[]⟩,[(0,⟨[],[]⟩)]),(42,⟨[(0,.i),(4,.c (.c (.ptr 33792 0))),(10,.i),(11,.i),(12,.i),(30,.i),(31,.i),(32,.c x64)],[(33792,.box [xs,xb,xs])]⟩,[(2,⟨[(0,.i),(4,.c (.c (.ptr 33792 0))),(10,.i),(11,.i),(12,.i)],[(33792,.box [xs,xb,xs])]⟩)])]⟩
def Jr (N:Nat):Sig:=.of [.cell false (.sl 60 Tq4)] [.cell false (.int .i64)] (fun a=>DW N a)
theorem OE (N:Nat):Spec Tryz.prog 58 (Jr N):=Ac (C:=ctx Tryz.prog [(156,Jt N),(159,LP N),(160,RY N)] Qz) (L:=Rl) (fn:=Tryz.f58) (N:=N) (Ah ⟨Jf N,Oq N,TT N,trivial⟩)
def nD (N n:Nat):Sig:=.of [.box [(false,.bool)],Sq3] [.cell false .str] (Aab N n)
theorem AaF (N:Nat):QE Tryz.prog (nD N):=Ti (Ad:=[.box [(false,.bool)],Sq3]) (Aq:=[.cell false .str]) (l:=[(111,fun a=>JB N a.1 a.2)]) ⟨SQ N,trivial⟩
def Vy (N:Nat):Sig:=.of [Sq3,Sq3] [.cell false .bool] (fun a=>Js N a.1 a.2)
theorem bH (N:Nat):Spec Tryz.prog 18 (Vy N):=Ac (C:=ctx Tryz.prog [(36,Qn N),(68,GH N),(30,L8 N)] [] [] [] [] [9,16,17,26,27,36]) (L:=⟨[],[]⟩) (fn:=Tryz.f18) (N:=N) (Ah ⟨Wp N,IJ N,RD N,trivial⟩)
def Kv (N:Nat):Alt:=.of [.cell false .str,.cell false (.int .i64)] [Sq9,.cell false (.int .i64)] [.cell false .ptr,.cell false (.int .i64)] (fun a=>MF N a.1 a.2)
theorem PS (N:Nat):Spec Tryz.prog 84 (Kv N).1/\Spec Tryz.prog 84 (Kv N).2.1:=OC (C:=ctx Tryz.prog [(170,Nv N)] [] [(171,IY N)]) (L:=⟨[],[]⟩) (fn:=Tryz.f84) (N:=N) (Ah ⟨Ku N,trivial⟩ ⟨PR N,trivial⟩) (by kernel_rfl) (by kernel_rfl) (fun a=>by kernel_rfl)
def WW (N:Nat):Sig:=.of [.cell false .str,NK] [.cell false (.int .i64)] (fun a=>Eo N a.1 a.2)
theorem SK (N:Nat):Spec Tryz.prog 115 (WW N):=Ac (C:=ctx Tryz.prog [(170,Nv N),(175,X8 N)] []) (L:=⟨[],[]⟩) (fn:=Tryz.f115) (N:=N) (Ah ⟨Ku N,iI N,trivial⟩)
def Fq (N:Nat):Alt:=.of [Sq9] [Sq9,.cell false (.int .i64)] [.cell false .ptr,.cell false (.int .i64)] (fun a=>EF N a)
theorem JP (N:Nat):Spec Tryz.prog 86 (Fq N).1/\Spec Tryz.prog 86 (Fq N).2.1:=OC (C:=ctx Tryz.prog [(172,Gq N)] [] [(171,IY N)]) (L:=⟨[],[]⟩) (fn:=Tryz.f86) (N:=N) (Ah ⟨Hf N,trivial⟩ ⟨PR N,trivial⟩) (by kernel_rfl) (by kernel_rfl) (fun a=>by kernel_rfl)
def Ud (N:Nat):Sig:=.of [.cell false .str,NK] [.cell false (.int .i64)] (fun a=>DF N a.1 a.2)
theorem Q3 (N:Nat):Spec Tryz.prog 130 (Ud N):=Ac (C:=ctx Tryz.prog [(170,Nv N),(192,Ha N)] []) (L:=⟨[],[]⟩) (fn:=Tryz.f130) (N:=N) (Ah ⟨Ku N,Ib N,trivial⟩)
def Ug (N:Nat):Sig:=.of [.cell false .str,NK] [.cell false (.int .i64)] (fun a=>DI N a.1 a.2)
theorem Q9 (N:Nat):Spec Tryz.prog 139 (Ug N):=Ac (C:=ctx Tryz.prog [(170,Nv N),(202,JA N)] []) (L:=⟨[],[]⟩) (fn:=Tryz.f139) (N:=N) (Ah ⟨Ku N,L6 N,trivial⟩)
end
noncomputable section
def XY (N:Nat):Sig:=.of [.cell false .str] [.cell false (.int .i64),.cell false (.int .i64)] (fun a=>Ve N a)
theorem jC (N:Nat):Spec Tryz.prog 179 (XY N):=Ac (C:=ctx Tryz.prog [(226,V3 N)] []) (L:=⟨[],[]⟩) (fn:=Tryz.f179) (N:=N) (Ah ⟨bZ N,trivial⟩)
def V9 (N:Nat):Sig:=.of [sK,.cell false (.int .i64)] [.cell false (.int .i64),.cell false (.int .i64)] (fun a=>Ia N a.1 a.2)
theorem dI (N:Nat):Spec Tryz.prog 182 (V9 N):=Ac (C:=ctx Tryz.prog [(92,IK N),(185,Oe N)] []) (L:=⟨[],[]⟩) (fn:=Tryz.f182) (N:=N) (Ah ⟨JQ N,Qp N,trivial⟩)
def XF:List (Nat×Nrm):=[(3,⟨[0,4,6],[],[],[],[]⟩),(18,⟨[0,4,5,6,7,8],[],[],[],[]⟩),(69,⟨[0,4,6,7,8],[],[],[],[]⟩)]
def Za:Lk:=⟨[(69,⟨[(0,.i),(4,.c xs),(6,.i),(7,.c x64),(8,.i)],[]⟩)],[(18,⟨[(0,.i),(4,.c xs),(5,.c x64),(6,.c xb),(7,.c x64),(8,.c x64)],[]⟩,[(0,⟨[(0,.i),(4,.c xs),(6,.c xb)],[]⟩)])]⟩
def Jn (N:Nat):Sig:=.of [.cell false .str] [.cell false .str,.cell false (.int .i64)] (fun a=>EC N a)
theorem KR (N:Nat):Spec Tryz.prog 229 (Jn N):=Ac (C:=ctx Tryz.prog [(227,ZE N),(65,Es N)] XF) (L:=Za) (fn:=Tryz.f229) (N:=N) (Ah ⟨lW N,Em N,trivial⟩)
end
noncomputable section
def XN:List (Nat×Nrm):=[(3,⟨[],[],[],[],[]⟩),(93,⟨[1],[],[],[],[]⟩),(138,⟨[1,134,135,136],[],[],[],[]⟩)]
def Zf:Lk:=⟨[(93,⟨[(1,.c (.c (.ptr 33024 0)))],[(33024,.box [xb,xb,x64,x64,(xl (.str .nil)),(xl (.str .nil)),(xl (.str (.str .nil))),x64,x64,x64,(xl Tq1),xb,(xl Tq1),(xl Tq1),xs,xs,(xl Tq2),(xl Tq2),(xl Tq4)])]⟩)],[(138,⟨[(1,.c (.c (.ptr 33024 0))),(134,.i),(135,.i),(136,.c x64)],[(33024,.box [xb,xb,x64,x64,(xl (.str .nil)),(xl (.str .nil)),(xl (.str (.str .nil))),x64,x64,x64,(xl Tq1),xb,(xl Tq1),(xl Tq1),xs,xs,(xl Tq2),(xl Tq2),(xl Tq4)])]⟩,[(0,⟨[],[]⟩)])]⟩
def O5 (N:Nat):Sig:=.of [Sq3] [.cell false (.int .i64)] (fun a=>FU N a)
theorem UW (N:Nat):Spec Tryz.prog 16 (O5 N):=Ac (C:=ctx Tryz.prog [(59,Yb N),(60,O6 N),(61,JS N),(62,IP N),(25,LC N),(64,V6 N),(65,Es N),(37,V7 N),(66,Qm N),(67,Oa N)] XN [] [] [] [17,21,22,26,30,31,36,41,42,47,48,53,54,58,59,63]) (L:=Zf) (fn:=Tryz.f16) (N:=N) (Ah ⟨jE N,Vb N,Qo N,JU N,RJ N,dE N,Em N,dF N,Rf N,Qj N,trivial⟩)
def Lc (N:Nat):Sig:=.of [.cell false .str] [Agm,.cell false (.int .i64)] (fun a=>FX N a)
theorem Ld (N:Nat):Spec Tryz.prog 88 (Lc N):=Ac (C:=ctx Tryz.prog [(177,Og N),(89,Ql N)] []) (L:=⟨[],[]⟩) (fn:=Tryz.f88) (N:=N) (Ah ⟨Qq N,QZ N,trivial⟩)
def Vd:List (Nat×Nrm):=[(3,⟨[4],[([4],9,(.str .nil),1004096)],[],[(1000000,1004096)],[]⟩),(14,⟨[4,9,10,11],[([4],9,(.str .nil),1000000)],[],[(40448,1000000)],[]⟩)]
def Wy:Lk:=⟨[],[(14,⟨[(4,.c (xo 1000000)),(9,.i),(10,.i),(11,.c x64)],[(1000000,.arr 9 false (.str .nil))]⟩,[(0,⟨[(4,.c (xo 1004096))],[(1004096,.arr 9 false (.str .nil))]⟩)])]⟩
def LG (N:Nat):Sig:=.of [.cell false (.sl 123 Tq5)] [Sq1,.cell false (.int .i64)] (fun a=>Gv N a)
theorem RU (N:Nat):Spec Tryz.prog 183 (LG N):=Ac (C:=ctx Tryz.prog [(229,Jn N)] Vd) (L:=Wy) (fn:=Tryz.f183) (N:=N) (Ah ⟨KR N,trivial⟩)
end
noncomputable section
def qG:List (Nat×Nrm):=[(3,⟨[8],[([8],22,(.sl 9 (.str .nil) .nil),1012288)],[],[(1000000,1012288)],[]⟩),(11,⟨[1,8,11,13,32,33,34],[([13],9,(.str .nil),1008192),([8],22,(.sl 9 (.str .nil) .nil),1008208)],[],[(1004096,1008192),(1004112,1008208)],[]⟩),(34,⟨[1,8,32,33,34],[([8],22,(.sl 9 (.str .nil) .nil),1000000)],[],[(52736,1000000)],[]⟩),(62,⟨[1,8,11,13,14,32,33,34],[([13],9,(.str .nil),1004096),([8],22,(.sl 9 (.str .nil) .nil),1004112)],[],[(50688,1004096),(1000000,1004112)],[]⟩)]
def wW:Lk:=⟨[],[(34,⟨[(1,.i),(8,.c (xo 1000000)),(32,.i),(33,.i),(34,.c x64)],[(1000000,.arr 22 false (.sl 9 (.str .nil) .nil))]⟩,[(0,⟨[(8,.c (xo 1012288))],[(1012288,.arr 22 false (.sl 9 (.str .nil) .nil))]⟩)]),(62,⟨[(1,.i),(8,.c (xo 1004112)),(11,.c (.c (.ptr 35584 0))),(13,.c (xo 1004096)),(14,.c x64),(32,.i),(33,.i),(34,.i)],[(35584,.box [(xl Tq5),x64]),(1004096,.arr 9 false (.str .nil)),(1004112,.arr 22 false (.sl 9 (.str .nil) .nil))]⟩,[(2,⟨[(1,.i),(8,.c (xo 1008208)),(11,.c (.c (.ptr 35584 0))),(13,.c (xo 1008192)),(32,.i),(33,.i),(34,.i)],[(35584,.box [(xl Tq5),x64]),(1008192,.arr 9 false (.str .nil)),(1008208,.arr 22 false (.sl 9 (.str .nil) .nil))]⟩)])]⟩
def Ya (N:Nat):Sig:=.of [.cell false .str,.cell false (.int .i64)] [Ah2,.cell false (.int .i64)] (fun a=>Ht N a.1 a.2)
theorem jD (N:Nat):Spec Tryz.prog 184 (Ya N):=Ac (C:=ctx Tryz.prog [(88,Lc N),(89,Ql N),(230,Ih N),(229,Jn N),(94,FT N)] qG) (L:=wW) (fn:=Tryz.f184) (N:=N) (Ah ⟨Ld N,QZ N,Jv N,KR N,GI N,trivial⟩)
def La (N:Nat):Sig:=.of [.cell false .str] [.cell false .str,.cell false (.int .i64)] (fun a=>IM N a)
theorem QC (N:Nat):Spec Tryz.prog 187 (La N):=Ac (C:=ctx Tryz.prog [(88,Lc N),(230,Ih N),(94,FT N)] []) (L:=⟨[],[]⟩) (fn:=Tryz.f187) (N:=N) (Ah ⟨Ld N,Jv N,GI N,trivial⟩)
end
