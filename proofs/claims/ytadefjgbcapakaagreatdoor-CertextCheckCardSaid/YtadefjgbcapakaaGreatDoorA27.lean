/-
  CertextCheck: the law returns true whatever the input; machine, functions, plain law (part 27 of 47.)
-/
import Derived.Test.YtadefjgbcapakaaGreatDoorA26
set_option linter.unusedVariables false
set_option linter.unusedSimpArgs false
namespace Go.Proofs.YtadefjgbcapakaaGreatDoor.Vm
noncomputable section
open Go.Proofs
def gW (N n:Nat):Sig:=.of [Sq2] [.cell false .bool] (mM N n)
theorem xX (N:Nat):lY Tryz.prog (gW N):=AaI (Ah:=[Sq2]) (AL:=[.cell false .bool]) (l:=[(110,fun a=>Ql N a),(113,fun a=>Qm N a),(116,fun a=>Qn N a),(119,fun a=>Qo N a),(122,fun a=>Qp N a),(125,fun a=>IU N a),(128,fun a=>Qq N a),(131,fun a=>Qr N a),(134,fun a=>Qs N a),(137,fun a=>OJ N a),(140,fun a=>OL N a),(143,fun a=>OM N a),(146,fun a=>OO N a)]) ⟨bY N,bZ N,cO N,cZ N,dA N,dB N,dD N,dF N,dG N,YL N,YM N,YN N,YO N,trivial⟩
def CE (N:Nat):Sig:=.of [.box [(false,.bool)],.cell false (.int .i64),Sq1] [.cell false .str] (fun a=>Aq N a.1 a.2.1 a.2.2)
theorem Cb (N:Nat):Spec Tryz.prog 70 (CE N):=Ac (C:=ctx Tryz.prog [(164,J9 N),(71,CZ N)] []) (L:=⟨[],[]⟩) (fn:=Tryz.f70) (N:=N) (Ag ⟨H9 N,CO N,trivial⟩)
def UA (N:Nat):Sig:=.of [RV] [An5] (fun a=>LU N a)
theorem dO (N:Nat):Spec Tryz.prog 188 (UA N):=Ac (C:=ctx Tryz.prog [(33,Cj N)] []) (L:=⟨[],[]⟩) (fn:=Tryz.f188) (N:=N) (Ag ⟨BU N,trivial⟩)
def Afp:List (Nat×Nrm):=[(3,⟨[5],[([5],9,(.str .nil),1016384)],[],[(1000000,1016384)],[]⟩),(11,⟨[0,1,5,6,7,8],[([5],9,(.str .nil),1012288)],[],[(1008192,1012288)],[]⟩),(14,⟨[0,1,5,6],[([5],9,(.str .nil),1000000)],[],[(44288,1000000),(1012288,1000000)],[]⟩),(33,⟨[0,1,5,6,7],[([5],9,(.str .nil),1004096)],[],[(1000000,1004096)],[]⟩),(42,⟨[0,1,5,6,7,8,27,28,29],[([5,27],9,(.str .nil),1008192)],[],[(1004096,1008192)],[]⟩)]
def AgF:Lk:=⟨[(33,⟨[(0,.c (.c (.ptr 0 0))),(1,.i),(5,.c (xo 1004096)),(6,.i),(7,.c xs)],[(0,.box [(xl (.int .i64 .nil)),x64]),(1004096,.arr 9 false (.str .nil))]⟩)],[(14,⟨[(0,.c (.c (.ptr 0 0))),(1,.i),(5,.c (xo 1000000)),(6,.c x64)],[(0,.box [(xl (.int .i64 .nil)),x64]),(1000000,.arr 9 false (.str .nil))]⟩,[(0,⟨[(5,.c (xo 1016384))],[(0,.box [(xl (.int .i64 .nil)),x64]),(1016384,.arr 9 false (.str .nil))]⟩)]),(42,⟨[(0,.c (.c (.ptr 0 0))),(1,.i),(5,.c (xo 1008192)),(6,.i),(7,.i),(8,.c xb),(27,.c (xo 1008192)),(28,.i),(29,.c x64)],[(0,.box [(xl (.int .i64 .nil)),x64]),(1008192,.arr 9 false (.str .nil))]⟩,[(2,⟨[(0,.c (.c (.ptr 0 0))),(1,.i),(5,.c (xo 1012288)),(6,.i),(7,.i),(8,.c xb)],[(0,.box [(xl (.int .i64 .nil)),x64]),(1012288,.arr 9 false (.str .nil))]⟩)])]⟩
def qQ (N:Nat):Sig:=.of [RV,.cell false .bool] [Ao1] (fun a=>Rz N a.1 a.2)
theorem Abl (N:Nat):Spec Tryz.prog 96 (qQ N):=Ac (C:=ctx Tryz.prog [(33,Cj N),(41,N9 N)] Afp) (L:=AgF) (fn:=Tryz.f96) (N:=N) (Ag ⟨BU N,NY N,trivial⟩)
def vC:List (Nat×Nrm):=[(3,⟨[3],[([3],74,(.str (.str .nil)),1012288)],[],[(1000000,1012288)],[]⟩),(11,⟨[0,3,4,5,6],[([3],74,(.str (.str .nil)),1008192)],[],[(1004096,1008192)],[]⟩),(14,⟨[0,3,4],[([3],74,(.str (.str .nil)),1000000)],[],[(43264,1000000),(1008192,1000000)],[]⟩),(34,⟨[0,3,4,5,6,23,24,25],[([3,23],74,(.str (.str .nil)),1004096)],[],[(1000000,1004096)],[]⟩)]
def zF:Lk:=⟨[],[(14,⟨[(0,.c (.c (.ptr 0 0))),(3,.c (xo 1000000)),(4,.c x64)],[(0,.box [(xl (.int .i64 .nil)),x64]),(1000000,.arr 74 false (.str (.str .nil)))]⟩,[(0,⟨[(3,.c (xo 1012288))],[(0,.box [(xl (.int .i64 .nil)),x64]),(1012288,.arr 74 false (.str (.str .nil)))]⟩)]),(34,⟨[(0,.c (.c (.ptr 0 0))),(3,.c (xo 1004096)),(4,.i),(5,.c (.c (.ptr 34048 0))),(6,.c xb),(23,.c (xo 1004096)),(24,.i),(25,.c x64)],[(0,.box [(xl (.int .i64 .nil)),x64]),(34048,.box [xs,xs]),(1004096,.arr 74 false (.str (.str .nil)))]⟩,[(2,⟨[(0,.c (.c (.ptr 0 0))),(3,.c (xo 1008192)),(4,.i),(5,.c (.c (.ptr 34048 0))),(6,.c xb)],[(0,.box [(xl (.int .i64 .nil)),x64]),(34048,.box [xs,xs]),(1008192,.arr 74 false (.str (.str .nil)))]⟩)])]⟩
def VK (N:Nat):Sig:=.of [RV] [Ao2] (fun a=>ND N a)
theorem jH (N:Nat):Spec Tryz.prog 97 (VK N):=Ac (C:=ctx Tryz.prog [(33,Cj N),(41,N9 N)] vC) (L:=zF) (fn:=Tryz.f97) (N:=N) (Ag ⟨BU N,NY N,trivial⟩)
def oC:List (Nat×Nrm):=[(17,⟨[0,2,3],[],[],[],[]⟩)]
def uO:Lk:=⟨[(17,⟨[(0,.i),(2,.c (.c (.ptr 33280 0))),(3,.c xs)],[(33280,.box [(xo 33281)]),(33281,.Bh 175 false (.sl 177 Tq0 .nil))]⟩)],[]⟩
def U0 (N:Nat):Sig:=.of [.cell false (.int .i64)] [Sq0] (fun a=>IX N a)
theorem dL (N:Nat):Spec Tryz.prog 180 (U0 N):=Ac (C:=ctx Tryz.prog [(227,qY N)] oC) (L:=uO) (fn:=Tryz.f180) (N:=N) (Ag ⟨Ab3 N,trivial⟩)
def GX (N:Nat):Sig:=.of [.cell false .str] [.cell false .bool] (fun a=>Dz N a)
theorem Ho (N:Nat):Spec Tryz.prog 65 (GX N):=Ac (C:=ctx Tryz.prog [(162,UQ N)] []) (L:=⟨[],[]⟩) (fn:=Tryz.f65) (N:=N) (Ag ⟨VV N,trivial⟩)
def jX:List (Nat×Nrm):=[(7,⟨[],[],[],[],[]⟩),(25,⟨[0,1,11],[],[],[],[]⟩),(30,⟨[0,1,5],[],[],[],[]⟩)]
def oQ:Lk:=⟨[(25,⟨[(0,.i),(1,.i),(11,.c xb)],[]⟩)],[(30,⟨[(0,.i),(1,.i),(5,.c x64)],[]⟩,[(1,⟨[],[]⟩)])]⟩
def SX (N:Nat):Sig:=.of [.cell false (.int .i64),.cell false .str] [.cell false .bool] (fun a=>D9 N a.1 a.2)
theorem Z5 (N:Nat):Spec Tryz.prog 219 (SX N):=Ac (C:=ctx Tryz.prog [(260,jY N),(261,NG N),(262,S9 N)] jX [] [] [] [22,27,32,33,34,37,43,44,50,51]) (L:=oQ) (fn:=Tryz.f219) (N:=N) (Ag ⟨Aad N,Og N,UJ N,trivial⟩)
end
noncomputable section
def dN:List (Nat×Nrm):=[(3,⟨[],[],[],[],[]⟩),(18,⟨[8,9,10],[],[],[],[]⟩)]
def jE:Lk:=⟨[],[(18,⟨[(8,.i),(9,.i),(10,.c x64)],[]⟩,[(0,⟨[],[]⟩)])]⟩
def Ry (N:Nat):Sig:=.of [.cell false (.sl 111 Tq2)] [.cell false .bool] (fun a=>Fg N a)
theorem XU (N:Nat):Spec Tryz.prog 21 (Ry N):=Ac (C:=ctx Tryz.prog [(40,MP N),(69,NZ N)] dN) (L:=jE) (fn:=Tryz.f21) (N:=N) (Ag ⟨Ph N,Qb N,trivial⟩)
def Nj (N:Nat):Sig:=.of [.cell false .str] [.cell false .bool] (fun a=>Gw N a)
theorem LV (N:Nat):Spec Tryz.prog 156 (Nj N):=Ac (C:=ctx Tryz.prog [(204,Zt N)] []) (L:=⟨[],[]⟩) (fn:=Tryz.f156) (N:=N) (Ag ⟨aQ N,trivial⟩)
def AbW (N n:Nat):Sig:=.of [.cell false (.int .u8)] [.cell false .bool] (mO N n)
theorem Aij (N:Nat):lY Tryz.prog (AbW N):=AaI (Ah:=[.cell false (.int .u8)]) (AL:=[.cell false .bool]) (l:=[(285,fun a=>Jh N a),(288,fun a=>Ji N a)]) ⟨pY N,qA N,trivial⟩
def Ag5:List (Nat×Nrm):=[(3,⟨[],[],[],[],[]⟩),(18,⟨[9,10,11],[],[],[],[]⟩)]
def Ai2:Lk:=⟨[],[(18,⟨[(9,.i),(10,.i),(11,.c x64)],[]⟩,[(0,⟨[],[]⟩)])]⟩
def OX (N:Nat):Sig:=.of [.cell false .str] [.cell false .bool] (fun a=>Gg N a)
theorem N7 (N:Nat):Spec Tryz.prog 271 (OX N):=Ac (C:=ctx Tryz.prog [(242,KG N),(296,iQ N)] Ag5) (L:=Ai2) (fn:=Tryz.f271) (N:=N) (Ag ⟨RQ N,yO N,trivial⟩)
def Ac7 (N:Nat):Sig:=.of [.cell false .str] [Sq9,.cell false (.int .i64)] (fun a=>nI N a)
theorem Agk (N:Nat):Spec Tryz.prog 207 (Ac7 N):=Ac (C:=ctx Tryz.prog [(251,aB N)] []) (L:=⟨[],[]⟩) (fn:=Tryz.f207) (N:=N) (Ag ⟨bJ N,trivial⟩)
def AdP:List (Nat×Nrm):=[(3,⟨[],[],[],[],[]⟩),(18,⟨[1,5],[],[],[],[]⟩)]
def Agl:Lk:=⟨[],[(18,⟨[(1,.i),(5,.c xs)],[]⟩,[(0,⟨[],[]⟩)])]⟩
def SK (N n:Nat):Sig:=.of [Sq9,.cell false (.int .i64)] [.cell false (.int .i64)] (fun a=>JA N n a.1 a.2)
theorem Vk (N:Nat): ∀ n,Spec Tryz.prog 208 (SK N n)
  | 0=>lK (C:=ctx Tryz.prog [] []) (fn:=Tryz.f208) (Ag (gs:=[]) trivial) (by kernel_rfl) (by kernel_rfl)
  | n+1=>Ac (C:=ctx Tryz.prog ((208,SK N n)::[(251,aB N)]) AdP) (L:=Agl) (fn:=Tryz.f208) (N:=N) (Ag ⟨Vk N n,⟨bJ N,trivial⟩⟩)
def lW (N:Nat):Sig:=SK N N
theorem Aaw (N:Nat):Spec Tryz.prog 208 (lW N):=Vk N N
def Dv (N:Nat):Sig:=.of [.box [(false,.bool)],Sq1] [.cell false .str] (fun a=>AZ N a.1 a.2)
theorem CX (N:Nat):Spec Tryz.prog 75 (Dv N):=Ac (C:=ctx Tryz.prog [(70,CE N)] []) (L:=⟨[],[]⟩) (fn:=Tryz.f75) (N:=N) (Ag ⟨Cb N,trivial⟩)
def NQ (N:Nat):Sig:=.of [.box [(false,.bool)],.cell false (.int .i64)] [.cell false .str] (fun a=>IW N a.1 a.2)
theorem PY (N:Nat):Spec Tryz.prog 189 (NQ N):=Ac (C:=ctx Tryz.prog [(199,MQ N),(70,CE N)] []) (L:=⟨[],[]⟩) (fn:=Tryz.f189) (N:=N) (Ag ⟨P5 N,Cb N,trivial⟩)
end
noncomputable section
def oD:List (Nat×Nrm):=[(3,⟨[1],[],[],[],[]⟩),(18,⟨[1,54,55,56],[],[],[],[]⟩)]
def uT:Lk:=⟨[],[(18,⟨[(1,.c (.c (.ptr 33024 0))),(54,.i),(55,.i),(56,.c x64)],[(33024,.box [xb,xb,x64,x64,(xl (.str .nil)),(xl (.str .nil)),(xl (.str (.str .nil))),x64,x64,x64,(xl Tq1),xb,(xl Tq1),(xl Tq1),xs,xs,(xl Tq2),(xl Tq2),(xl Tq3)])]⟩,[(0,⟨[(1,.c (.c (.ptr 33024 0)))],[(33024,.box [xb,xb,x64,x64,(xl (.str .nil)),(xl (.str .nil)),(xl (.str (.str .nil))),x64,x64,x64,(xl Tq1),xb,(xl Tq1),(xl Tq1),xs,xs,(xl Tq2),(xl Tq2),(xl Tq3)])]⟩)])]⟩
def U1 (N:Nat):Sig:=.of [Sq2] [.cell false .bool] (fun a=>LQ N a)
theorem dM (N:Nat):Spec Tryz.prog 9 (U1 N):=Ac (C:=ctx Tryz.prog [(39,zA N),(40,MP N),(21,Ry N),(31,Nc N)] oD [] [] [] [9,14,15,20,21,26,27,33,34,40,41,46,47,52]) (L:=uT) (fn:=Tryz.f9) (N:=N) (Ag ⟨Adb N,Ph N,XU N,TD N,trivial⟩)
def Ahb:List (Nat×Nrm):=[(3,⟨[],[],[],[],[]⟩),(10,⟨[0,1,5],[],[],[],[]⟩)]
def Ajt:Lk:=⟨[],[(10,⟨[(0,.i),(1,.i),(5,.c x64)],[]⟩,[(0,⟨[],[]⟩)])]⟩
def Aau (N:Nat):Sig:=.of [.cell false .str,.cell false .fn] [.cell false .bool] (fun a=>Oj N a.1 a.2)
theorem AdL (N:Nat):Spec Tryz.prog 284 (Aau N):=Ac (C:=ctx Tryz.prog [] Ahb [] [(12,AbW N)]) (L:=Ajt) (fn:=Tryz.f284) (N:=N) (Ag trivial trivial ⟨Aij N,trivial⟩)
def WL (N:Nat):Sig:=.of [.cell false .str] [.cell false .bool] (fun a=>KT N a)
theorem XK (N:Nat):Spec Tryz.prog 246 (WL N):=Ac (C:=ctx Tryz.prog [(273,bG N),(274,iR N),(271,OX N)] [] [] [] [] [13,17,18,21,22,25]) (L:=⟨[],[]⟩) (fn:=Tryz.f246) (N:=N) (Ag ⟨wO N,yP N,N7 N,trivial⟩)
def qM (N:Nat):Sig:=.of [.cell false .str] [.cell false .bool] (fun a=>Rl N a)
theorem Aba (N:Nat):Spec Tryz.prog 247 (qM N):=Ac (C:=ctx Tryz.prog [(271,OX N)] []) (L:=⟨[],[]⟩) (fn:=Tryz.f247) (N:=N) (Ag ⟨N7 N,trivial⟩)
def XL (N:Nat):Sig:=.of [.cell false .str] [.cell false .bool] (fun a=>KU N a)
theorem o9 (N:Nat):Spec Tryz.prog 248 (XL N):=Ac (C:=ctx Tryz.prog [(275,Qg N),(271,OX N),(276,Ls N)] []) (L:=⟨[],[]⟩) (fn:=Tryz.f248) (N:=N) (Ag ⟨Xf N,N7 N,OB N,trivial⟩)
def bM:List (Nat×Nrm):=[(3,⟨[],[],[],[],[]⟩),(11,⟨[0,13,14,15],[],[],[],[]⟩),(18,⟨[0,13,14,15],[],[],[],[]⟩),(38,⟨[0,6,13,14,15,25,26,27],[],[],[],[]⟩)]
def fO:Lk:=⟨[],[(18,⟨[(0,.i),(13,.i),(14,.i),(15,.c x64)],[]⟩,[(0,⟨[],[]⟩)]),(38,⟨[(0,.i),(6,.i),(13,.i),(14,.i),(15,.i),(25,.i),(26,.i),(27,.c x64)],[]⟩,[(2,⟨[(0,.i),(13,.i),(14,.i),(15,.i)],[]⟩)])]⟩
def Rf (N:Nat):Sig:=.of [Sq1,.cell false (.int .i64)] [.cell false (.int .i64)] (fun a=>GH N a.1 a.2)
theorem Xo (N:Nat):Spec Tryz.prog 54 (Rf N):=Ac (C:=ctx Tryz.prog [(156,Nj N)] bM) (L:=fO) (fn:=Tryz.f54) (N:=N) (Ag ⟨LV N,trivial⟩)
def Ug:List (Nat×Nrm):=[(3,⟨[],[],[],[],[]⟩),(11,⟨[0,10,11,12],[],[],[],[]⟩),(18,⟨[0,10,11,12],[],[],[],[]⟩),(38,⟨[0,4,10,11,12,29,30,31],[],[],[],[]⟩)]
def Vo:Lk:=⟨[],[(18,⟨[(0,.i),(10,.i),(11,.i),(12,.c x64)],[]⟩,[(0,⟨[],[]⟩)]),(38,⟨[(0,.i),(4,.c (.c (.ptr 33792 0))),(10,.i),(11,.i),(12,.i),(29,.i),(30,.i),(31,.c x64)],[(33792,.box [xs,xs])]⟩,[(2,⟨[(0,.i),(10,.i),(11,.i),(12,.i)],[]⟩)])]⟩
def MC (N:Nat):Sig:=.of [Sq6] [.cell false (.int .i64)] (fun a=>FU N a)
theorem Si (N:Nat):Spec Tryz.prog 55 (MC N):=Ac (C:=ctx Tryz.prog [(156,Nj N)] Ug) (L:=Vo) (fn:=Tryz.f55) (N:=N) (Ag ⟨LV N,trivial⟩)
def rF (N:Nat):Sig:=.of [.cell false .str] [.cell false (.int .i64)] (fun a=>Wh N a)
theorem AbL (N:Nat):Spec Tryz.prog 160 (rF N):=Ac (C:=ctx Tryz.prog [(207,Ac7 N),(208,lW N)] []) (L:=⟨[],[]⟩) (fn:=Tryz.f160) (N:=N) (Ag ⟨Agk N,Aaw N,trivial⟩)
end
noncomputable section
def AfP:List (Nat×Nrm):=[(3,⟨[],[],[],[],[]⟩),(11,⟨[10,11,12],[],[],[],[]⟩),(18,⟨[10,11,12],[],[],[],[]⟩),(38,⟨[4,5,10,11,12],[],[],[],[]⟩)]
def AgR:Lk:=⟨[],[(18,⟨[(10,.i),(11,.i),(12,.c x64)],[]⟩,[(0,⟨[],[]⟩)]),(38,⟨[(4,.i),(5,.c x64),(10,.i),(11,.i),(12,.i)],[]⟩,[(2,⟨[(10,.i),(11,.i),(12,.i)],[]⟩)])]⟩
def Nk (N:Nat):Sig:=.of [.cell false .str] [.cell false .bool] (fun a=>DV N a)
theorem LY (N:Nat):Spec Tryz.prog 252 (Nk N):=Ac (C:=ctx Tryz.prog [(254,SC N),(261,NG N)] AfP [] [] [] [19,23,24,28,29,36]) (L:=AgR) (fn:=Tryz.f252) (N:=N) (Ag ⟨UU N,Og N,trivial⟩)
def AbE:List (Nat×Nrm):=[(3,⟨[],[],[],[],[]⟩),(10,⟨[0,5,6,7],[],[],[],[]⟩)]
def AdC:Lk:=⟨[],[(10,⟨[(0,.i),(5,.i),(6,.i),(7,.c x64)],[]⟩,[(0,⟨[],[]⟩)])]⟩
def bC (N:Nat):Sig:=.of [.cell false .str] [.cell false .bool] (fun a=>QN N a)
theorem wJ (N:Nat):Spec Tryz.prog 37 (bC N):=Ac (C:=ctx Tryz.prog [(107,bD N)] AbE) (L:=AdC) (fn:=Tryz.f37) (N:=N) (Ag ⟨wL N,trivial⟩)
def qZ (N:Nat):Sig:=.of [.cell false .str] [Sq9,.cell false (.int .i64)] (fun a=>VS N a)
theorem Ab4 (N:Nat):Spec Tryz.prog 81 (qZ N):=Ac (C:=ctx Tryz.prog [(169,UN N)] []) (L:=⟨[],[]⟩) (fn:=Tryz.f81) (N:=N) (Ag ⟨VT N,trivial⟩)
def Ab7:List (Nat×Nrm):=[(3,⟨[],[],[],[],[]⟩),(18,⟨[1,5],[],[],[],[]⟩)]
def Ady:Lk:=⟨[],[(18,⟨[(1,.i),(5,.c xs)],[]⟩,[(0,⟨[],[]⟩)])]⟩
def Q9 (N n:Nat):Sig:=.of [Sq9,.cell false (.int .i64)] [.cell false (.int .i64)] (fun a=>IB N n a.1 a.2)
theorem SY (N:Nat): ∀ n,Spec Tryz.prog 163 (Q9 N n)
  | 0=>lK (C:=ctx Tryz.prog [] []) (fn:=Tryz.f163) (Ag (gs:=[]) trivial) (by kernel_rfl) (by kernel_rfl)
  | n+1=>Ac (C:=ctx Tryz.prog ((163,Q9 N n)::[(169,UN N)]) Ab7) (L:=Ady) (fn:=Tryz.f163) (N:=N) (Ag ⟨SY N n,⟨VT N,trivial⟩⟩)
def aV (N:Nat):Sig:=Q9 N N
theorem vY (N:Nat):Spec Tryz.prog 163 (aV N):=SY N N
def Dx (N:Nat):Sig:=.of [.cell false (.int .i64),Sq1] [.cell false .str] (fun a=>AP N a.1 a.2)
theorem CQ (N:Nat):Spec Tryz.prog 48 (Dx N):=Ac (C:=ctx Tryz.prog [(151,UO N)] []) (L:=⟨[],[]⟩) (fn:=Tryz.f48) (N:=N) (Ag ⟨VU N,trivial⟩)
def jS:List (Nat×Nrm):=[(3,⟨[6],[([6],5,(.int .u8 .nil),1020480)],[],[(1000000,1020480)],[]⟩),(11,⟨[6,9,30,31,32],[([6],5,(.int .u8 .nil),1008192)],[],[(1004112,1008192)],[]⟩),(19,⟨[6,9,30,31,32],[([6],5,(.int .u8 .nil),1016384)],[],[(1012288,1016384)],[]⟩),(30,⟨[6,30,31,32],[([6],5,(.int .u8 .nil),1000000)],[],[(48384,1000000)],[]⟩),(42,⟨[6,8,9,30,31,32],[([9],5,(.int .u8 .nil),1004096),([6],5,(.int .u8 .nil),1004112)],[],[(43264,1004096),(1000000,1004112)],[]⟩),(58,⟨[6,9,10,30,31,32],[([6],5,(.int .u8 .nil),1012288)],[],[(1008192,1012288)],[]⟩)]
def oN:Lk:=⟨[],[(30,⟨[(6,.c (xo 1000000)),(30,.c (xo 40192)),(31,.i),(32,.c x64)],[(40192,.arr 3 false (.int .i64 .nil)),(1000000,.arr 5 false (.int .u8 .nil))]⟩,[(0,⟨[(6,.c (xo 1020480))],[(1020480,.arr 5 false (.int .u8 .nil))]⟩)]),(42,⟨[(6,.c (xo 1004112)),(8,.c x64),(9,.c (xo 1004096)),(30,.c (xo 40192)),(31,.i),(32,.i)],[(40192,.arr 3 false (.int .i64 .nil)),(1004096,.arr 5 false (.int .u8 .nil)),(1004112,.arr 5 false (.int .u8 .nil))]⟩,[(2,⟨[(6,.c (xo 1008192)),(9,.c (xo 43264)),(30,.c (xo 40192)),(31,.i),(32,.i)],[(40192,.arr 3 false (.int .i64 .nil)),(43264,.arr 5 false (.int .u8 .nil)),(1008192,.arr 5 false (.int .u8 .nil))]⟩)]),(58,⟨[(6,.c (xo 1012288)),(9,.c (xo 43264)),(10,.c x64),(30,.c (xo 40192)),(31,.i),(32,.i)],[(40192,.arr 3 false (.int .i64 .nil)),(43264,.arr 5 false (.int .u8 .nil)),(1012288,.arr 5 false (.int .u8 .nil))]⟩,[(4,⟨[(6,.c (xo 1016384)),(9,.c (xo 43264)),(30,.c (xo 40192)),(31,.i),(32,.i)],[(40192,.arr 3 false (.int .i64 .nil)),(43264,.arr 5 false (.int .u8 .nil)),(1016384,.arr 5 false (.int .u8 .nil))]⟩)])]⟩
def SV (N:Nat):Sig:=.of [.cell false .str] [.cell false .str,.cell false (.int .i64)] (fun a=>KA N a)
theorem Z4 (N:Nat):Spec Tryz.prog 153 (SV N):=Ac (C:=ctx Tryz.prog [(162,UQ N)] jS) (L:=oN) (fn:=Tryz.f153) (N:=N) (Ag ⟨VV N,trivial⟩)
def QL (N:Nat):Sig:=.of [.cell false (.int .i64),Sq1] [.cell false .str,.cell false (.int .i64)] (fun a=>Gy N a.1 a.2)
theorem QA (N:Nat):Spec Tryz.prog 78 (QL N):=Ac (C:=ctx Tryz.prog [(151,UO N)] []) (L:=⟨[],[]⟩) (fn:=Tryz.f78) (N:=N) (Ag ⟨VU N,trivial⟩)
def Yo:List (Nat×Nrm):=[(3,⟨[],[],[],[],[]⟩),(18,⟨[0,1,12,13],[],[],[],[]⟩)]
def Z9:Lk:=⟨[],[(18,⟨[(0,.i),(1,.i),(12,.i),(13,.c x64)],[]⟩,[(0,⟨[],[]⟩)])]⟩
def Gs (N:Nat):Sig:=.of [.cell false (.sl 80 Tq1),.cell false (.sl 80 Tq1)] [.cell false .bool] (fun a=>DD N a.1 a.2)
theorem Hw (N:Nat):Spec Tryz.prog 105 (Gs N):=Ac (C:=ctx Tryz.prog [(108,Oh N)] Yo) (L:=Z9) (fn:=Tryz.f105) (N:=N) (Ag ⟨Qc N,trivial⟩)
end
noncomputable section
def SQ (N:Nat):Sig:=.of [.box [(false,.bool)],.cell false (.int .i64),.cell false .bool] [.cell false .str] (fun a=>Ic N a.1 a.2.1 a.2.2)
theorem YS (N:Nat):Spec Tryz.prog 190 (SQ N):=Ac (C:=ctx Tryz.prog [(233,SS N),(70,CE N)] []) (L:=⟨[],[]⟩) (fn:=Tryz.f190) (N:=N) (Ag ⟨Zw N,Cb N,trivial⟩)
def gI (N:Nat):Sig:=.of [.box [(false,.bool)],Sq2] [.cell false .str] (fun a=>EY N a.1 a.2)
theorem X9 (N:Nat):Spec Tryz.prog 114 (gI N):=Ac (C:=ctx Tryz.prog [(73,Pz N),(71,CZ N),(70,CE N)] []) (L:=⟨[],[]⟩) (fn:=Tryz.f114) (N:=N) (Ag ⟨RD N,CO N,Cb N,trivial⟩)
def Adj:List (Nat×Nrm):=[(3,⟨[5],[],[],[(37888,1004096),(1000000,1004096)],[]⟩),(26,⟨[5,22,23,24],[],[],[(37888,1000000),(40448,1000000)],[]⟩)]
def Afy:Lk:=⟨[],[(26,⟨[(5,.c (xo 1000000)),(22,.i),(23,.i),(24,.c x64)],[(1000000,.arr 5 true (.int .u8 .nil))]⟩,[(0,⟨[(5,.c (xo 1004096))],[(1004096,.arr 5 true (.int .u8 .nil))]⟩)])]⟩
def UF (N:Nat):Sig:=.of [.cell false .str] [.cell false .str,.cell false (.int .i64)] (fun a=>Pq N a)
theorem VN (N:Nat):Spec Tryz.prog 236 (UF N):=Ac (C:=ctx Tryz.prog [(204,Zt N),(267,Acs N)] Adj) (L:=Afy) (fn:=Tryz.f236) (N:=N) (Ag ⟨aQ N,Af1 N,trivial⟩)
def YK (N:Nat):Sig:=.of [.box [(false,.bool)],Sq2] [.cell false .str] (fun a=>Ej N a.1 a.2)
theorem Vt (N:Nat):Spec Tryz.prog 138 (YK N):=Ac (C:=ctx Tryz.prog [(70,CE N)] []) (L:=⟨[],[]⟩) (fn:=Tryz.f138) (N:=N) (Ag ⟨Cb N,trivial⟩)
def Afo:List (Nat×Nrm):=[(3,⟨[2,3],[],[],[(33637,1012288),(1000000,1012288)],[]⟩),(11,⟨[0,2,3,4,5],[([5],177,Tq0,1008192)],[],[(33637,1008208),(1004096,1008192),(1004112,1008208)],[]⟩),(14,⟨[0,2,3,4],[],[],[(33637,1000000),(44288,1000000)],[]⟩),(30,⟨[0,2,3,4,5,6],[([5],177,Tq0,1004096)],[],[(33637,1004112),(43008,1004096),(1000000,1004112)],[]⟩)]
def AgD:Lk:=⟨[],[(14,⟨[(0,.c (.c (.ptr 0 0))),(2,.c (.c (.ptr 33280 0))),(3,.c (.c (.ptr 33536 0))),(4,.c x64)],[(0,.box [(xl (.int .i64 .nil)),x64]),(33280,.box [(xo 33281)]),(33281,.Bh 175 false (.sl 177 Tq0 .nil)),(33536,.box [(xo 1000000)]),(1000000,.arr 175 false (.sl 177 Tq0 .nil))]⟩,[(0,⟨[(2,.c (.c (.ptr 33280 0))),(3,.c (.c (.ptr 33536 0)))],[(0,.box [(xl (.int .i64 .nil)),x64]),(33280,.box [(xo 33281)]),(33281,.Bh 175 false (.sl 177 Tq0 .nil)),(33536,.box [(xo 1012288)]),(1012288,.arr 175 false (.sl 177 Tq0 .nil))]⟩)]),(30,⟨[(0,.c (.c (.ptr 0 0))),(2,.c (.c (.ptr 33280 0))),(3,.c (.c (.ptr 33536 0))),(4,.i),(5,.c (xo 1004096)),(6,.c x64)],[(0,.box [(xl (.int .i64 .nil)),x64]),(33280,.box [(xo 33281)]),(33281,.Bh 175 false (.sl 177 Tq0 .nil)),(33536,.box [(xo 1004112)]),(1004096,.arr 177 false Tq0),(1004112,.arr 175 false (.sl 177 Tq0 .nil))]⟩,[(2,⟨[(0,.c (.c (.ptr 0 0))),(2,.c (.c (.ptr 33280 0))),(3,.c (.c (.ptr 33536 0))),(4,.i),(5,.c (xo 1008192))],[(0,.box [(xl (.int .i64 .nil)),x64]),(33280,.box [(xo 33281)]),(33281,.Bh 175 false (.sl 177 Tq0 .nil)),(33536,.box [(xo 1008208)]),(1008192,.arr 177 false Tq0),(1008208,.arr 175 false (.sl 177 Tq0 .nil))]⟩)])]⟩
def WR (N:Nat):Sig:=.of [RV] [Sq0] (fun a=>Rx N a)
theorem XT (N:Nat):Spec Tryz.prog 109 (WR N):=Ac (C:=ctx Tryz.prog [(33,Cj N),(188,UA N)] Afo) (L:=AgD) (fn:=Tryz.f109) (N:=N) (Ag ⟨BU N,dO N,trivial⟩)
def UW:List (Nat×Nrm):=[(3,⟨[],[],[],[],[]⟩),(10,⟨[0,6,7,8],[],[],[],[]⟩),(11,⟨[0,6,7,8],[],[],[],[]⟩),(46,⟨[0,3,4,5,6,7,8],[],[],[],[]⟩)]
def Vy:Lk:=⟨[],[(10,⟨[(0,.i),(6,.i),(7,.i),(8,.c x64)],[]⟩,[(0,⟨[],[]⟩)]),(46,⟨[(0,.i),(3,.i),(4,.c (.c (.ptr 33792 0))),(5,.c x64),(6,.i),(7,.i),(8,.i)],[(33792,.box [xs,x64,xs])]⟩,[(2,⟨[(0,.i),(6,.i),(7,.i),(8,.i)],[]⟩)])]⟩
def MH (N:Nat):Sig:=.of [.cell false (.sl 177 Tq0)] [.cell false (.int .i64)] (fun a=>Dh N a)
theorem SE (N:Nat):Spec Tryz.prog 168 (MH N):=Ac (C:=ctx Tryz.prog [(65,GX N),(219,SX N)] UW) (L:=Vy) (fn:=Tryz.f168) (N:=N) (Ag ⟨Ho N,Z5 N,trivial⟩)
def AbC:List (Nat×Nrm):=[(3,⟨[0,5],[],[],[],[]⟩),(11,⟨[0,5],[],[],[],[]⟩),(18,⟨[0,5],[],[],[],[]⟩),(38,⟨[0,5,6],[],[],[],[]⟩)]
def Ad7:Lk:=⟨[],[(18,⟨[(0,.i),(5,.c x64)],[]⟩,[(0,⟨[(0,.i),(5,.c x64)],[]⟩)]),(38,⟨[(0,.i),(5,.i),(6,.c x64)],[]⟩,[(2,⟨[(0,.i),(5,.i)],[]⟩)])]⟩
def aY (N:Nat):Sig:=.of [.cell false .str] [.cell false .str,.cell false .str,.cell false .bool] (fun a=>QM N a)
theorem wH (N:Nat):Spec Tryz.prog 253 (aY N):=Ac (C:=ctx Tryz.prog [(252,Nk N),(261,NG N),(262,S9 N)] AbC [] [] [] [24,27,28,33,34,41,42,46,47,53,64,70,71,76,82,83]) (L:=Ad7) (fn:=Tryz.f253) (N:=N) (Ag ⟨LY N,Og N,UJ N,trivial⟩)
def kC (N:Nat):Sig:=.of [.cell false .str] [.cell false .bool] (fun a=>PD N a)
theorem Aaf (N:Nat):Spec Tryz.prog 211 (kC N):=Ac (C:=ctx Tryz.prog [(252,Nk N)] []) (L:=⟨[],[]⟩) (fn:=Tryz.f211) (N:=N) (Ag ⟨LY N,trivial⟩)
end
noncomputable section
def VY (N:Nat):Sig:=.of [.cell false .str] [.cell false .bool] (fun a=>JP N a)
theorem kK (N:Nat):Spec Tryz.prog 212 (VY N):=Ac (C:=ctx Tryz.prog [(252,Nk N),(254,SC N)] [] [] [] [] [5,9,13,14,18,19,23,24,29,30]) (L:=⟨[],[]⟩) (fn:=Tryz.f212) (N:=N) (Ag ⟨LY N,UU N,trivial⟩)
def l7:List (Nat×Nrm):=[(3,⟨[],[],[],[],[]⟩),(11,⟨[0,12,13,14],[],[],[],[]⟩),(18,⟨[0,12,13,14],[],[],[],[]⟩),(38,⟨[0,5,6,7,12,13,14],[],[],[],[]⟩)]
def pM:Lk:=⟨[],[(18,⟨[(0,.i),(12,.i),(13,.i),(14,.c x64)],[]⟩,[(0,⟨[],[]⟩)]),(38,⟨[(0,.i),(5,.i),(6,.i),(7,.c x64),(12,.i),(13,.i),(14,.i)],[]⟩,[(2,⟨[(0,.i),(12,.i),(13,.i),(14,.i)],[]⟩)])]⟩
def Tc (N:Nat):Sig:=.of [Sq1,.cell false (.int .i64)] [.cell false (.int .i64)] (fun a=>Ij N a.1 a.2)
theorem ZI (N:Nat):Spec Tryz.prog 60 (Tc N):=Ac (C:=ctx Tryz.prog [(65,GX N)] l7) (L:=pM) (fn:=Tryz.f60) (N:=N) (Ag ⟨Ho N,trivial⟩)
def Xd:List (Nat×Nrm):=[(3,⟨[],[],[],[],[]⟩),(11,⟨[0,9,10,11],[],[],[],[]⟩),(18,⟨[0,9,10,11],[],[],[],[]⟩),(38,⟨[0,3,4,5,9,10,11],[],[],[],[]⟩)]
def Yu:Lk:=⟨[],[(18,⟨[(0,.i),(9,.i),(10,.i),(11,.c x64)],[]⟩,[(0,⟨[],[]⟩)]),(38,⟨[(0,.i),(3,.i),(4,.c (.c (.ptr 33792 0))),(5,.c x64),(9,.i),(10,.i),(11,.i)],[(33792,.box [xs,xs])]⟩,[(2,⟨[(0,.i),(9,.i),(10,.i),(11,.i)],[]⟩)])]⟩
def O8 (N:Nat):Sig:=.of [Sq6] [.cell false (.int .i64)] (fun a=>Hq N a)
theorem UY (N:Nat):Spec Tryz.prog 61 (O8 N):=Ac (C:=ctx Tryz.prog [(65,GX N)] Xd) (L:=Yu) (fn:=Tryz.f61) (N:=N) (Ag ⟨Ho N,trivial⟩)
def aS (N:Nat):Sig:=.of [.cell false .str] [.cell false (.int .i64)] (fun a=>QJ N a)
theorem vT (N:Nat):Spec Tryz.prog 67 (aS N):=Ac (C:=ctx Tryz.prog [(81,qZ N),(163,aV N)] []) (L:=⟨[],[]⟩) (fn:=Tryz.f67) (N:=N) (Ag ⟨Ab4 N,vY N,trivial⟩)
def SG (N:Nat):Sig:=.of [.cell false (.int .i64),.cell false (.int .i64)] [.cell false .str] (fun a=>G5 N a.1 a.2)
theorem UZ (N:Nat):Spec Tryz.prog 49 (SG N):=Ac (C:=ctx Tryz.prog [(152,UM N),(48,Dx N)] []) (L:=⟨[],[]⟩) (fn:=Tryz.f49) (N:=N) (Ag ⟨dP N,CQ N,trivial⟩)
def WZ (N:Nat):Sig:=.of [.cell false .str] [.cell false .str] (fun a=>Jp N a)
theorem Yn (N:Nat):Spec Tryz.prog 50 (WZ N):=Ac (C:=ctx Tryz.prog [(153,SV N),(48,Dx N)] []) (L:=⟨[],[]⟩) (fn:=Tryz.f50) (N:=N) (Ag ⟨Z4 N,CQ N,trivial⟩)
def We (N:Nat):Sig:=.of [.cell false (.int .i64),.cell false .bool] [.cell false .str] (fun a=>NH N a.1 a.2)
theorem kX (N:Nat):Spec Tryz.prog 46 (We N):=Ac (C:=ctx Tryz.prog [(149,RF N),(48,Dx N)] []) (L:=⟨[],[]⟩) (fn:=Tryz.f46) (N:=N) (Ag ⟨Yd N,CQ N,trivial⟩)
def Yw (N:Nat):Sig:=.of [.cell false (.int .i64),.cell false (.int .i64)] [.cell false .str] (fun a=>DF N a.1 a.2)
theorem pV (N:Nat):Spec Tryz.prog 47 (Yw N):=Ac (C:=ctx Tryz.prog [(150,RG N),(48,Dx N)] []) (L:=⟨[],[]⟩) (fn:=Tryz.f47) (N:=N) (Ag ⟨Ye N,CQ N,trivial⟩)
end
noncomputable section
def eF:List (Nat×Nrm):=[(3,⟨[],[],[],[],[]⟩),(18,⟨[0,1,12,13],[],[],[],[]⟩)]
def kV:Lk:=⟨[],[(18,⟨[(0,.i),(1,.i),(12,.i),(13,.c x64)],[]⟩,[(0,⟨[],[]⟩)])]⟩
def Le (N:Nat):Sig:=.of [.cell false (.sl 111 Tq2),.cell false (.sl 111 Tq2)] [.cell false .bool] (fun a=>Fv N a.1 a.2)
theorem O7 (N:Nat):Spec Tryz.prog 38 (Le N):=Ac (C:=ctx Tryz.prog [(105,Gs N),(108,Oh N)] eF [] [] [] [28,40,41,53,54,67]) (L:=kV) (fn:=Tryz.f38) (N:=N) (Ag ⟨Hw N,Qc N,trivial⟩)
def PK (N:Nat):Sig:=.of [Sq7,Sq7] [.cell false .bool] (fun a=>Lh N a.1 a.2)
theorem V5 (N:Nat):Spec Tryz.prog 106 (PK N):=Ac (C:=ctx Tryz.prog [(105,Gs N)] []) (L:=⟨[],[]⟩) (fn:=Tryz.f106) (N:=N) (Ag ⟨Hw N,trivial⟩)
end
noncomputable section
def kD:List (Nat×Nrm):=[(3,⟨[],[],[],[],[]⟩),(18,⟨[11,12,13],[],[],[],[]⟩)]
def oV:Lk:=⟨[],[(18,⟨[(11,.i),(12,.i),(13,.c x64)],[]⟩,[(0,⟨[],[]⟩)])]⟩
def IL (N:Nat):Sig:=.of [Sq0] [.cell false (.int .i64)] (fun a=>ED N a)
theorem J3 (N:Nat):Spec Tryz.prog 80 (IL N):=Ac (C:=ctx Tryz.prog [(168,MH N)] kD) (L:=oV) (fn:=Tryz.f80) (N:=N) (Ag ⟨SE N,trivial⟩)
def UT (N:Nat):Sig:=.of [.cell false .str] [.cell false .bool] (fun a=>LZ N a)
theorem VX (N:Nat):Spec Tryz.prog 210 (UT N):=Ac (C:=ctx Tryz.prog [(253,aY N)] []) (L:=⟨[],[]⟩) (fn:=Tryz.f210) (N:=N) (Ag ⟨wH N,trivial⟩)
def dV:List (Nat×Nrm):=[(3,⟨[3],[([3],9,(.str .nil),1004096)],[],[(1000000,1004096)],[]⟩),(14,⟨[3,6,7,8],[([3],9,(.str .nil),1000000)],[],[(39168,1000000)],[]⟩)]
def kL:Lk:=⟨[],[(14,⟨[(3,.c (xo 1000000)),(6,.i),(7,.i),(8,.c x64)],[(1000000,.arr 9 false (.str .nil))]⟩,[(0,⟨[(3,.c (xo 1004096))],[(1004096,.arr 9 false (.str .nil))]⟩)])]⟩
def RI (N:Nat):Sig:=.of [.cell false (.sl 177 Tq0)] [Sq1] (fun a=>J5 N a)
theorem Yp (N:Nat):Spec Tryz.prog 241 (RI N):=Ac (C:=ctx Tryz.prog [(50,WZ N),(48,Dx N)] dV) (L:=kL) (fn:=Tryz.f241) (N:=N) (Ag ⟨Yn N,CQ N,trivial⟩)
def Zj:List (Nat×Nrm):=[(3,⟨[],[],[],[],[]⟩),(18,⟨[0,1,11,12],[],[],[],[]⟩)]
def dJ:Lk:=⟨[],[(18,⟨[(0,.i),(1,.i),(11,.i),(12,.c x64)],[]⟩,[(0,⟨[],[]⟩)])]⟩
def Qa (N:Nat):Sig:=.of [.cell false (.sl 111 Tq2),.cell false (.sl 111 Tq2)] [.cell false .bool] (fun a=>IJ N a.1 a.2)
theorem WO (N:Nat):Spec Tryz.prog 30 (Qa N):=Ac (C:=ctx Tryz.prog [(38,Le N),(68,Jd N),(95,MR N)] Zj) (L:=dJ) (fn:=Tryz.f30) (N:=N) (Ag ⟨O7 N,Ld N,PE N,trivial⟩)
def UX (N:Nat):Sig:=.of [Sq2,Sq2] [.cell false .bool] (fun a=>Yt N a.1 a.2)
theorem dZ (N:Nat):Spec Tryz.prog 36 (UX N):=Ac (C:=ctx Tryz.prog [(103,Qd N),(104,PL N),(105,Gs N),(106,PK N),(38,Le N),(17,IE N)] [] [] [] [] [10,16,17,23,24,30,31,37,38,44,45,51,52,58,59,65,66,72,73,79,80,86,87,93,94,100,101,107,108,114,115,121,122,128]) (L:=⟨[],[]⟩) (fn:=Tryz.f36) (N:=N) (Ag ⟨Xc N,V6 N,Hw N,V5 N,O7 N,KC N,trivial⟩)
end
noncomputable section
def UR (N:Nat):Sig:=.of [.cell false .str] [.cell false .bool] (fun a=>Je N a)
theorem dU (N:Nat):Spec Tryz.prog 209 (UR N):=Ac (C:=ctx Tryz.prog [(210,UT N),(252,Nk N)] [] [] [] [] [5,8,9,13,17,18,22,23,27,28]) (L:=⟨[],[]⟩) (fn:=Tryz.f209) (N:=N) (Ag ⟨VX N,LY N,trivial⟩)
def dS:List (Nat×Nrm):=[(3,⟨[5],[],[],[],[]⟩),(26,⟨[5,14,15,16],[],[],[],[]⟩)]
def kG:Lk:=⟨[],[(26,⟨[(5,.c xs),(14,.i),(15,.i),(16,.c x64)],[]⟩,[(0,⟨[(5,.c xs)],[]⟩)])]⟩
def RH (N:Nat):Sig:=.of [Sq0] [.cell false .str,.cell false (.int .i64)] (fun a=>J4 N a)
theorem Yk (N:Nat):Spec Tryz.prog 203 (RH N):=Ac (C:=ctx Tryz.prog [(80,IL N),(241,RI N),(240,aT N),(48,Dx N)] dS) (L:=kG) (fn:=Tryz.f203) (N:=N) (Ag ⟨J3 N,Yp N,vU N,CQ N,trivial⟩)
def aN (N:Nat):Sig:=.of [Sq2,Sq2] [.cell false .bool] (fun a=>Nb N a.1 a.2)
theorem uM (N:Nat):Spec Tryz.prog 18 (aN N):=Ac (C:=ctx Tryz.prog [(36,UX N),(68,Jd N),(30,Qa N)] [] [] [] [] [9,16,17,26,27,36]) (L:=⟨[],[]⟩) (fn:=Tryz.f18) (N:=N) (Ag ⟨dZ N,Ld N,WO N,trivial⟩)
end
noncomputable section
def bP:List (Nat×Nrm):=[(17,⟨[0,3,5],[],[],[],[]⟩)]
def fQ:Lk:=⟨[(17,⟨[(0,.c (.c (.ptr 0 0))),(3,.c (.c (.ptr 33536 0))),(5,.c xs)],[(0,.box [xb]),(33536,.box [xb,xb,x64,x64,(xl (.str .nil)),(xl (.str .nil)),(xl (.str (.str .nil))),x64,x64,x64,(xl Tq1),xb,(xl Tq1),(xl Tq1),xs,xs,(xl Tq2),(xl Tq2),(xl Tq3)])]⟩)],[]⟩
def fV (N:Nat):Sig:=.of [.box [(false,.bool)],Sq2] [.cell false .str] (fun a=>EW N a.1 a.2)
theorem Xu (N:Nat):Spec Tryz.prog 111 (fV N):=Ac (C:=ctx Tryz.prog [(189,NQ N),(190,SQ N),(75,Dv N)] bP) (L:=fQ) (fn:=Tryz.f111) (N:=N) (Ag ⟨PY N,YS N,CX N,trivial⟩)
def Ky (N:Nat):Sig:=.of [.box [(false,.bool)],.cell false .str] [.cell false .str] (fun a=>FZ N a.1 a.2)
theorem KO (N:Nat):Spec Tryz.prog 193 (Ky N):=Ac (C:=ctx Tryz.prog [(236,UF N),(71,CZ N),(70,CE N)] []) (L:=⟨[],[]⟩) (fn:=Tryz.f193) (N:=N) (Ag ⟨VN N,CO N,Cb N,trivial⟩)
def YI:List (Nat×Nrm):=[(3,⟨[0,5],[],[],[],[]⟩),(14,⟨[0,5,13,14,15],[],[],[],[]⟩)]
def bQ:Lk:=⟨[],[(14,⟨[(0,.c (.c (.ptr 0 0))),(5,.c (xo 34816)),(13,.c (xo 36096)),(14,.i),(15,.c x64)],[(0,.box [xb]),(34816,.arr 9 false (.str .nil)),(36096,.arr 3 false (.int .i64 .nil))]⟩,[(0,⟨[(0,.c (.c (.ptr 0 0))),(5,.c (xo 34816))],[(0,.box [xb]),(34816,.arr 9 false (.str .nil))]⟩)])]⟩
def bU (N:Nat):Sig:=.of [.box [(false,.bool)],Sq2] [.cell false .str] (fun a=>EJ N a.1 a.2)
theorem Wy (N:Nat):Spec Tryz.prog 126 (bU N):=Ac (C:=ctx Tryz.prog [(199,MQ N),(70,CE N),(75,Dv N)] YI) (L:=bQ) (fn:=Tryz.f126) (N:=N) (Ag ⟨P5 N,Cb N,CX N,trivial⟩)
def YH (N:Nat):Sig:=.of [.box [(false,.bool)],Sq2] [.cell false .str] (fun a=>Ei N a.1 a.2)
theorem Vs (N:Nat):Spec Tryz.prog 129 (YH N):=Ac (C:=ctx Tryz.prog [(189,NQ N)] []) (L:=⟨[],[]⟩) (fn:=Tryz.f129) (N:=N) (Ag ⟨PY N,trivial⟩)
def MG (N:Nat):Sig:=.of [An5] [.cell false .str,.cell false (.int .i64)] (fun a=>FV N a)
theorem Sm (N:Nat):Spec Tryz.prog 216 (MG N):=Ac (C:=ctx Tryz.prog [(236,UF N),(164,J9 N)] []) (L:=⟨[],[]⟩) (fn:=Tryz.f216) (N:=N) (Ag ⟨VN N,H9 N,trivial⟩)
def Wx (N:Nat):Sig:=.of [.box [(false,.bool)],Sq2] [.cell false .str] (fun a=>DN N a.1 a.2)
theorem Tv (N:Nat):Spec Tryz.prog 141 (Wx N):=Ac (C:=ctx Tryz.prog [(70,CE N),(75,Dv N)] []) (L:=⟨[],[]⟩) (fn:=Tryz.f141) (N:=N) (Ag ⟨Cb N,CX N,trivial⟩)
def LP (N:Nat):Sig:=.of [RV] [Sq4] (fun a=>GL N a)
theorem MO (N:Nat):Spec Tryz.prog 43 (LP N):=Ac (C:=ctx Tryz.prog [(33,Cj N),(109,WR N)] []) (L:=⟨[],[]⟩) (fn:=Tryz.f43) (N:=N) (Ag ⟨BU N,XT N,trivial⟩)
def WQ (N:Nat):Sig:=.of [RV] [Sq4] (fun a=>KX N a)
theorem XR (N:Nat):Spec Tryz.prog 42 (WQ N):=Ac (C:=ctx Tryz.prog [(33,Cj N),(109,WR N)] []) (L:=⟨[],[]⟩) (fn:=Tryz.f42) (N:=N) (Ag ⟨BU N,XT N,trivial⟩)
end
