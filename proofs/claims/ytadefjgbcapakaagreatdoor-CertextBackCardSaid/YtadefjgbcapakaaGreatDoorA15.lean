import Derived.Test.YtadefjgbcapakaaGreatDoorA13
import Derived.Test.YtadefjgbcapakaaGreatDoorA14
set_option linter.all false
namespace Go.Proofs.YtadefjgbcapakaaGreatDoor.Vm
noncomputable section
open Go.Proofs
def Ais:List (Nat×Nrm):=[(3,⟨[3],[],[],[],[]⟩),(22,⟨[0,3,4],[],[],[],[]⟩)]
def AkE:Lk:=⟨[],[(22,⟨[(0,.i),(3,.c x64),(4,.c x64)],[]⟩,[(0,⟨[(3,.c x64)],[]⟩)])]⟩
def AbM (N:Nat):Sig:=.of [.cell false .str] [.cell false (.int .i64)] (fun a=>Yy N a)
theorem AeC (N:Nat):Spec Tryz.prog 243 (AbM N):=Ad (C:=ctx Tryz.prog [] Ais [] [] [] [7,11,12,16,20,21]) (L:=AkE) (fn:=Tryz.f243) (N:=N) (Ag trivial)
def xZ (N:Nat):Sig:=.of [.cell false (.int .i64),.cell false (.int .i64)] [.cell false .bool] (fun a=>Z9 N a.1 a.2)
theorem AcE (N:Nat):Spec Tryz.prog 244 (xZ N):=Ad (C:=ctx Tryz.prog [] []) (L:=⟨[],[]⟩) (fn:=Tryz.f244) (N:=N) (Ag trivial)
def aT (N:Nat):Sig:=.of [.cell false (.int .u8)] [.cell false .bool] (fun a=>oQ N a)
theorem uK (N:Nat):Spec Tryz.prog 286 (aT N):=Ad (C:=ctx Tryz.prog [] [] [] [] [] [5,8,9,12,15,16,17,20,23,24]) (L:=⟨[],[]⟩) (fn:=Tryz.f286) (N:=N) (Ag trivial)
def Abq (N:Nat):Sig:=.of [.cell false (.int .u8)] [.cell false .bool] (fun a=>J6 N a)
theorem nS (N:Nat):Spec Tryz.prog 288 (Abq N):=Ad (C:=ctx Tryz.prog [] []) (L:=⟨[],[]⟩) (fn:=Tryz.f288) (N:=N) (Ag trivial)
def wJ (N:Nat):Sig:=.of [.cell false (.int .i64)] [.cell false (.int .i64)] (fun a=>rJ N a)
theorem Acr (N:Nat):Spec Tryz.prog 205 (wJ N):=Ad (C:=ctx Tryz.prog [] []) (L:=⟨[],[]⟩) (fn:=Tryz.f205) (N:=N) (Ag trivial)
end
noncomputable section
def jL:List (Nat×Nrm):=[(3,⟨[0,3],[],[],[],[]⟩),(11,⟨[5],[([5],5,(.int .u8 .nil),1012288)],[],[(1008192,1012288)],[]⟩),(14,⟨[0,3,4],[],[],[],[]⟩),(34,⟨[0,3,5,18,19],[([5],5,(.int .u8 .nil),1008192)],[],[(41216,1008192)],[]⟩)]
def nH:Lk:=⟨[],[(14,⟨[(0,.i),(3,.c x64),(4,.c x64)],[]⟩,[(0,⟨[(0,.i),(3,.c x64)],[]⟩)]),(34,⟨[(0,.i),(3,.i),(5,.c (xo 1008192)),(18,.i),(19,.c x64)],[(1008192,.arr 5 false (.int .u8 .nil))]⟩,[(2,⟨[(5,.c (xo 1012288))],[(1012288,.arr 5 false (.int .u8 .nil))]⟩)])]⟩
def MX (N:Nat):Sig:=.of [.cell false (.int .i64)] [.cell false .str] (fun a=>GI N a)
theorem P8 (N:Nat):Spec Tryz.prog 199 (MX N):=Ad (C:=ctx Tryz.prog [] jL) (L:=nH) (fn:=Tryz.f199) (N:=N) (Ag trivial)
def SH (N:Nat):Sig:=.of [.cell false .bool] [.cell false .str] (fun a=>Wl N a)
theorem ZA (N:Nat):Spec Tryz.prog 233 (SH N):=Ad (C:=ctx Tryz.prog [] []) (L:=⟨[],[]⟩) (fn:=Tryz.f233) (N:=N) (Ag trivial)
def tH:List (Nat×Nrm):=[(3,⟨[0,4],[],[],[],[]⟩),(11,⟨[5],[],[],[],[]⟩),(18,⟨[0,4],[],[],[],[]⟩),(38,⟨[0,5,34,35],[],[],[],[]⟩)]
def yJ:Lk:=⟨[],[(18,⟨[(0,.i),(4,.c x64)],[]⟩,[(0,⟨[(0,.i),(4,.c x64)],[]⟩)]),(38,⟨[(0,.i),(5,.c (xo 38912)),(34,.i),(35,.c x64)],[(38912,.arr 5 false (.int .u8 .nil))]⟩,[(2,⟨[(5,.c (xo 38912))],[(38912,.arr 5 false (.int .u8 .nil))]⟩)])]⟩
def P7 (N:Nat):Sig:=.of [.cell false (.int .i64)] [.cell false .str,.cell false (.int .i64)] (fun a=>IB N a)
theorem Rz (N:Nat):Spec Tryz.prog 73 (P7 N):=Ad (C:=ctx Tryz.prog [] tH) (L:=yJ) (fn:=Tryz.f73) (N:=N) (Ag trivial)
def Aiv:List (Nat×Nrm):=[(3,⟨[0,1,5],[],[],[],[]⟩),(10,⟨[0,1,5],[],[],[],[]⟩),(11,⟨[0,1],[],[],[(0,1012288),(1008192,1012288)],[]⟩),(22,⟨[0,1,6],[],[],[(0,1008192),(40704,1008192)],[]⟩)]
def AkG:Lk:=⟨[],[(10,⟨[(0,.c (xo 0)),(1,.i),(5,.c x64)],[(0,.arr 5 true (.int .u8 .nil))]⟩,[(0,⟨[(0,.c (xo 0)),(1,.i),(5,.c x64)],[(0,.arr 5 true (.int .u8 .nil))]⟩)]),(22,⟨[(0,.c (xo 1008192)),(1,.i),(6,.c x64)],[(1008192,.arr 5 true (.int .u8 .nil))]⟩,[(2,⟨[(0,.c (xo 1012288)),(1,.i)],[(1012288,.arr 5 true (.int .u8 .nil))]⟩)])]⟩
def AbN (N:Nat):Sig:=.of [AoQ,.cell false (.int .i64)] [AoQ] (fun a=>Yz N a.1 a.2)
theorem AeD (N:Nat):Spec Tryz.prog 267 (AbN N):=Ad (C:=ctx Tryz.prog [] Aiv) (L:=AkG) (fn:=Tryz.f267) (N:=N) (Ag trivial)
def RV (N:Nat):Sig:=.of [.cell false (.int .i64)] [.cell false (.int .i64)] (fun a=>Nj N a)
theorem U1 (N:Nat):Spec Tryz.prog 165 (RV N):=Ad (C:=ctx Tryz.prog [] []) (L:=⟨[],[]⟩) (fn:=Tryz.f165) (N:=N) (Ag trivial)
def Qj (N:Nat):Sig:=.of [] [AqD] (fun _=>Lh N)
theorem S9 (N:Nat):Spec Tryz.prog 19 (Qj N):=Ad (C:=ctx Tryz.prog [] []) (L:=⟨[],[]⟩) (fn:=Tryz.f19) (N:=N) (Ag trivial)
def jQ (N:Nat):Sig:=.of [] [AoR] (fun _=>ZI N)
theorem yS (N:Nat):Spec Tryz.prog 20 (jQ N):=Ad (C:=ctx Tryz.prog [] []) (L:=⟨[],[]⟩) (fn:=Tryz.f20) (N:=N) (Ag trivial)
def Dn (N:Nat):Sig:=.of [TS,.cell false (.int .i64)] [.cell false (.int .i64)] (fun a=>Az N a.1 a.2)
theorem CW (N:Nat):Spec Tryz.prog 33 (Dn N):=Ad (C:=ctx Tryz.prog [] []) (L:=⟨[],[]⟩) (fn:=Tryz.f33) (N:=N) (Ag trivial)
end
noncomputable section
def RZ (N:Nat):Sig:=.of [.cell false (.int .i64)] [.cell false .str] (fun a=>KD N a)
theorem UF (N:Nat):Spec Tryz.prog 41 (RZ N):=Ad (C:=ctx Tryz.prog [] []) (L:=⟨[],[]⟩) (fn:=Tryz.f41) (N:=N) (Ag trivial)
def UY (N n:Nat):Sig:=.of [.cell false (.int .i64)] [.cell false .str] (fun a=>Wp N n a)
theorem Wq (N:Nat): ∀ n,Spec Tryz.prog 227 (UY N n)
  | 0=>AbZ (C:=ctx Tryz.prog [] []) (fn:=Tryz.f227) (Ag (gs:=[]) trivial) (by kernel_rfl) (by kernel_rfl)
  | n+1=>Ad (C:=ctx Tryz.prog ((227,UY N n)::[]) []) (L:=⟨[],[]⟩) (fn:=Tryz.f227) (N:=N) (Ag ⟨Wq N n,trivial⟩)
def oO (N:Nat):Sig:=UY N N
theorem Abh (N:Nat):Spec Tryz.prog 227 (oO N):=Wq N N
def xJ (N:Nat):Sig:=.of [Al1] [TS] (fun a=>sF N a)
theorem Ac5 (N:Nat):Spec Tryz.prog 12 (xJ N):=Ad (C:=ctx Tryz.prog [] []) (L:=⟨[],[]⟩) (fn:=Tryz.f12) (N:=N) (Ag trivial)
end
noncomputable section
def V8:List (Nat×Nrm):=[(3,⟨[],[],[],[],[]⟩),(18,⟨[0,1,12,13],[],[],[],[]⟩)]
def Xn:Lk:=⟨[],[(18,⟨[(0,.i),(1,.i),(12,.i),(13,.c x64)],[]⟩,[(0,⟨[],[]⟩)])]⟩
def Nu (N:Nat):Sig:=.of [.cell false (.sl 60 Tq3),.cell false (.sl 60 Tq3)] [.cell false .bool] (fun a=>Ej N a.1 a.2)
theorem TA (N:Nat):Spec Tryz.prog 17 (Nu N):=Ad (C:=ctx Tryz.prog [] V8) (L:=Xn) (fn:=Tryz.f17) (N:=N) (Ag trivial)
def nK:List (Nat×Nrm):=[(3,⟨[],[],[],[],[]⟩),(11,⟨[2,3,20,21],[],[],[],[]⟩),(18,⟨[2,3,20,21],[],[],[],[]⟩),(19,⟨[2,3,5,8,20,21,41,42,43],[],[],[],[]⟩),(38,⟨[2,3,5,20,21,41,42,43],[],[],[],[]⟩),(54,⟨[2,3,5,7,8,20,21,41,42,43,51,52,53],[],[],[],[]⟩)]
def tV:Lk:=⟨[],[(18,⟨[(2,.c (.c (.ptr 33280 0))),(3,.c (.c (.ptr 33536 0))),(20,.i),(21,.c x64)],[(33280,.box [(xl (.sl 177 Tq0 .nil))]),(33536,.box [(xl (.sl 177 Tq0 .nil))])]⟩,[(0,⟨[],[]⟩)]),(38,⟨[(2,.c (.c (.ptr 33280 0))),(3,.c (.c (.ptr 33536 0))),(5,.i),(20,.i),(21,.i),(41,.i),(42,.i),(43,.c x64)],[(33280,.box [(xl (.sl 177 Tq0 .nil))]),(33536,.box [(xl (.sl 177 Tq0 .nil))])]⟩,[(2,⟨[(2,.c (.c (.ptr 33280 0))),(3,.c (.c (.ptr 33536 0))),(20,.i),(21,.i)],[(33280,.box [(xl (.sl 177 Tq0 .nil))]),(33536,.box [(xl (.sl 177 Tq0 .nil))])]⟩)]),(54,⟨[(2,.c (.c (.ptr 33280 0))),(3,.c (.c (.ptr 33536 0))),(5,.i),(7,.c (.c (.ptr 34560 0))),(8,.c xb),(20,.i),(21,.i),(41,.i),(42,.i),(43,.i),(51,.i),(52,.i),(53,.c x64)],[(33280,.box [(xl (.sl 177 Tq0 .nil))]),(33536,.box [(xl (.sl 177 Tq0 .nil))]),(34560,.box [xs,x64,xs])]⟩,[(4,⟨[(2,.c (.c (.ptr 33280 0))),(3,.c (.c (.ptr 33536 0))),(5,.i),(8,.c xb),(20,.i),(21,.i),(41,.i),(42,.i),(43,.i)],[(33280,.box [(xl (.sl 177 Tq0 .nil))]),(33536,.box [(xl (.sl 177 Tq0 .nil))])]⟩)])]⟩
def Oa (N:Nat):Sig:=.of [Sq0,Sq0] [.cell false .bool] (fun a=>Ei N a.1 a.2)
theorem Qa (N:Nat):Spec Tryz.prog 108 (Oa N):=Ad (C:=ctx Tryz.prog [] nK) (L:=tV) (fn:=Tryz.f108) (N:=N) (Ag trivial)
def ZJ:List (Nat×Nrm):=[(3,⟨[],[],[],[],[]⟩),(18,⟨[0,1,12,13],[],[],[],[]⟩)]
def dL:Lk:=⟨[],[(18,⟨[(0,.i),(1,.i),(12,.i),(13,.c x64)],[]⟩,[(0,⟨[],[]⟩)])]⟩
def Qb (N:Nat):Sig:=.of [Sq1,Sq1] [.cell false .bool] (fun a=>Ew N a.1 a.2)
theorem Xp (N:Nat):Spec Tryz.prog 103 (Qb N):=Ad (C:=ctx Tryz.prog [] ZJ) (L:=dL) (fn:=Tryz.f103) (N:=N) (Ag trivial)
end
noncomputable section
def Y7:List (Nat×Nrm):=[(3,⟨[],[],[],[],[]⟩),(18,⟨[0,1,12,13],[],[],[],[]⟩)]
def ZL:Lk:=⟨[],[(18,⟨[(0,.i),(1,.i),(12,.i),(13,.c x64)],[]⟩,[(0,⟨[],[]⟩)])]⟩
def PH (N:Nat):Sig:=.of [Sq6,Sq6] [.cell false .bool] (fun a=>G7 N a.1 a.2)
theorem VA (N:Nat):Spec Tryz.prog 104 (PH N):=Ad (C:=ctx Tryz.prog [] Y7) (L:=ZL) (fn:=Tryz.f104) (N:=N) (Ag trivial)
def FC (N:Nat):Sig:=.of [Qd] [.cell false (.int .i64)] (fun a=>Di N a)
theorem Fq (N:Nat):Spec Tryz.prog 85 (FC N):=Ad (C:=ctx Tryz.prog [] []) (L:=⟨[],[]⟩) (fn:=Tryz.f85) (N:=N) (Ag trivial)
def Ut (N:Nat):Sig:=.of [Qd] [Sq9,.cell false (.int .i64)] (fun a=>Mc N a)
theorem dA (N:Nat):Spec Tryz.prog 221 (Ut N):=Ad (C:=ctx Tryz.prog [] []) (L:=⟨[],[]⟩) (fn:=Tryz.f221) (N:=N) (Ag trivial)
def Ic (N:Nat):Sig:=.of [Qd,.cell false (.int .i64)] [Sq9,.cell false .bool] (fun a=>Ce N a.1 a.2)
theorem Io (N:Nat):Spec Tryz.prog 173 (Ic N):=Ad (C:=ctx Tryz.prog [] []) (L:=⟨[],[]⟩) (fn:=Tryz.f173) (N:=N) (Ag trivial)
def uM:List (Nat×Nrm):=[(3,⟨[],[],[],[],[]⟩),(10,⟨[0,3],[],[],[],[]⟩)]
def zK:Lk:=⟨[],[(10,⟨[(0,.i),(3,.c x64)],[]⟩,[(0,⟨[],[]⟩)])]⟩
def Ws (N:Nat):Sig:=.of [.cell false (.sl 123 Tq6)] [.cell false .bool] (fun a=>NL N a)
theorem kE (N:Nat):Spec Tryz.prog 308 (Ws N):=Ad (C:=ctx Tryz.prog [] uM) (L:=zK) (fn:=Tryz.f308) (N:=N) (Ag trivial)
def AaW:List (Nat×Nrm):=[(3,⟨[3],[([3],3,(.int .i64 .nil),1016384)],[],[(1000000,1016384)],[]⟩),(7,⟨[0,3,4],[],[],[],[]⟩),(11,⟨[],[],[],[],[]⟩),(14,⟨[0,3,4],[([3],3,(.int .i64 .nil),1000000)],[],[(42240,1000000)],[]⟩),(30,⟨[0,3,4,5],[([3],3,(.int .i64 .nil),1004096)],[],[(1000000,1004096)],[]⟩)]
def AcC:Lk:=⟨[],[(14,⟨[(0,.i),(3,.c (xo 1000000)),(4,.c x64)],[(1000000,.arr 3 false (.int .i64 .nil))]⟩,[(0,⟨[(3,.c (xo 1016384))],[(1016384,.arr 3 false (.int .i64 .nil))]⟩)]),(30,⟨[(0,.i),(3,.c (xo 1004096)),(4,.c x64),(5,.c x64)],[(1004096,.arr 3 false (.int .i64 .nil))]⟩,[(1,⟨[(0,.i),(3,.c (xo 42240)),(4,.c x64)],[(42240,.arr 3 false (.int .i64 .nil))]⟩),(2,⟨[],[]⟩)])]⟩
def aJ (N:Nat):Sig:=.of [.cell false .str] [Al1] (fun a=>QL N a)
theorem sV (N:Nat):Spec Tryz.prog 268 (aJ N):=Ad (C:=ctx Tryz.prog [] AaW) (L:=AcC) (fn:=Tryz.f268) (N:=N) (Ag trivial)
end
noncomputable section
def aO (N:Nat):Sig:=.of [] [Sq1] (fun _=>QO N)
theorem uA (N:Nat):Spec Tryz.prog 107 (aO N):=Ad (C:=ctx Tryz.prog [] []) (L:=⟨[],[]⟩) (fn:=Tryz.f107) (N:=N) (Ag trivial)
end
noncomputable section
def Abj:List (Nat×Nrm):=[(3,⟨[],[],[],[],[]⟩),(10,⟨[0,5,6,7],[],[],[],[]⟩)]
def AcL:Lk:=⟨[],[(10,⟨[(0,.i),(5,.i),(6,.i),(7,.c x64)],[]⟩,[(0,⟨[],[]⟩)])]⟩
def aN (N:Nat):Sig:=.of [.cell false .str] [.cell false .bool] (fun a=>Ns N a)
theorem tY (N:Nat):Spec Tryz.prog 37 (aN N):=Ad (C:=ctx Tryz.prog [(107,aO N)] Abj) (L:=AcL) (fn:=Tryz.f37) (N:=N) (Ag ⟨uA N,trivial⟩)
def Y6:List (Nat×Nrm):=[(3,⟨[],[],[],[],[]⟩),(18,⟨[0,1,12,13],[],[],[],[]⟩)]
def ZG:Lk:=⟨[],[(18,⟨[(0,.i),(1,.i),(12,.i),(13,.c x64)],[]⟩,[(0,⟨[],[]⟩)])]⟩
def Hq (N:Nat):Sig:=.of [.cell false (.sl 80 Tq1),.cell false (.sl 80 Tq1)] [.cell false .bool] (fun a=>CG N a.1 a.2)
theorem Iw (N:Nat):Spec Tryz.prog 105 (Hq N):=Ad (C:=ctx Tryz.prog [(108,Oa N)] Y6) (L:=ZG) (fn:=Tryz.f105) (N:=N) (Ag ⟨Qa N,trivial⟩)
end
noncomputable section
def jM (N:Nat):Sig:=.of [.cell false .str,.cell false (.int .i64)] [.cell false .bool] (fun a=>P9 N a.1 a.2)
theorem yM (N:Nat):Spec Tryz.prog 264 (jM N):=Ad (C:=ctx Tryz.prog [] []) (L:=⟨[],[]⟩) (fn:=Tryz.f264) (N:=N) (Ag trivial)
def yL (N:Nat):Sig:=.of [.cell false .str,.cell false (.int .i64)] [.cell false .bool] (fun a=>Q9 N a.1 a.2)
theorem AcG (N:Nat):Spec Tryz.prog 224 (yL N):=Ad (C:=ctx Tryz.prog [] []) (L:=⟨[],[]⟩) (fn:=Tryz.f224) (N:=N) (Ag trivial)
def Eu (N:Nat):Sig:=.of [Qd] [.cell false (.int .i64)] (fun a=>BQ N a)
theorem Eg (N:Nat):Spec Tryz.prog 176 (Eu N):=Ad (C:=ctx Tryz.prog [] []) (L:=⟨[],[]⟩) (fn:=Tryz.f176) (N:=N) (Ag trivial)
end
noncomputable section
def Y2 (N:Nat):Sig:=.of [.cell false .str] [.cell false .bool,.cell false (.int .i64)] (fun a=>P6 N a)
theorem nC (N:Nat):Spec Tryz.prog 234 (Y2 N):=Ad (C:=ctx Tryz.prog [] []) (L:=⟨[],[]⟩) (fn:=Tryz.f234) (N:=N) (Ag trivial)
def yI:List (Nat×Nrm):=[(3,⟨[4],[],[],[],[]⟩),(30,⟨[0,4,42,43],[],[],[],[]⟩)]
def Aba:Lk:=⟨[],[(30,⟨[(0,.i),(4,.c x64),(42,.i),(43,.c x64)],[]⟩,[(0,⟨[(4,.c x64)],[]⟩)])]⟩
def Y3 (N:Nat):Sig:=.of [.cell false .str] [.cell false (.int .i64),.cell false (.int .i64)] (fun a=>LD N a)
theorem nD (N:Nat):Spec Tryz.prog 235 (Y3 N):=Ad (C:=ctx Tryz.prog [] yI [] [] [] [8,12,16,20,21,25,29,30,31,32]) (L:=Aba) (fn:=Tryz.f235) (N:=N) (Ag trivial)
def Vx (N:Nat):Sig:=.of [Sq1,zU] [] (fun a=>Jn N a.1 a.2)
theorem RP (N:Nat):Spec Tryz.prog 197 (Vx N):=Ad (C:=ctx Tryz.prog [] []) (L:=⟨[],[]⟩) (fn:=Tryz.f197) (N:=N) (Ag trivial)
def Vu (N:Nat):Sig:=.of [Sq1,zU] [] (fun a=>Jm N a.1 a.2)
theorem RN (N:Nat):Spec Tryz.prog 198 (Vu N):=Ad (C:=ctx Tryz.prog [] []) (L:=⟨[],[]⟩) (fn:=Tryz.f198) (N:=N) (Ag trivial)
def NQ (N:Nat):Sig:=.of [.cell false .str] [.cell false (.int .i64)] (fun a=>Jl N a)
theorem PW (N:Nat):Spec Tryz.prog 202 (NQ N):=Ad (C:=ctx Tryz.prog [] []) (L:=⟨[],[]⟩) (fn:=Tryz.f202) (N:=N) (Ag trivial)
end
noncomputable section
def Jh (N:Nat):Sig:=.of [Qd,.cell false (.int .i64)] [Sq9,.cell false (.int .i64)] (fun a=>Fv N a.1 a.2)
theorem JG (N:Nat):Spec Tryz.prog 172 (Jh N):=Ad (C:=ctx Tryz.prog [(221,Ut N)] []) (L:=⟨[],[]⟩) (fn:=Tryz.f172) (N:=N) (Ag ⟨dA N,trivial⟩)
def AcA:List (Nat×Nrm):=[(3,⟨[7],[([7],9,(.str .nil),1004096)],[],[(1000000,1004096)],[]⟩),(34,⟨[7,36,37,38],[([7],9,(.str .nil),1000000)],[],[(45056,1000000)],[]⟩)]
def Ae8:Lk:=⟨[],[(34,⟨[(7,.c (xo 1000000)),(36,.c (xo 41728)),(37,.i),(38,.c x64)],[(41728,.arr 3 false (.int .i64 .nil)),(1000000,.arr 9 false (.str .nil))]⟩,[(0,⟨[(7,.c (xo 1004096))],[(1004096,.arr 9 false (.str .nil))]⟩)])]⟩
def UN (N:Nat):Sig:=.of [.cell false .str] [.cell false .str,.cell false (.int .i64)] (fun a=>Pv N a)
theorem VY (N:Nat):Spec Tryz.prog 237 (UN N):=Ad (C:=ctx Tryz.prog [(268,aJ N),(269,YA N),(215,QB N)] AcA) (L:=Ae8) (fn:=Tryz.f237) (N:=N) (Ag ⟨sV N,nN N,SK N,trivial⟩)
def oM (N:Nat):Sig:=.of [.cell false .str] [.cell false .str,.cell false (.int .i64),.cell false (.int .i64)] (fun a=>Wi N a)
theorem AaY (N:Nat):Spec Tryz.prog 223 (oM N):=Ad (C:=ctx Tryz.prog [(264,jM N)] []) (L:=⟨[],[]⟩) (fn:=Tryz.f223) (N:=N) (Ag ⟨yM N,trivial⟩)
def gI:List (Nat×Nrm):=[(29,⟨[8,9],[],[],[],[]⟩)]
def mF:Lk:=⟨[(29,⟨[(8,.i),(9,.c x64)],[(0,.box [(xl Tq6)])]⟩)],[]⟩
def SB (N:Nat):Sig:=.of [Qd,.cell false (.int .i64)] [.cell false .bool,.cell false (.int .i64)] (fun a=>KQ N a.1 a.2)
theorem Zg (N:Nat):Spec Tryz.prog 191 (SB N):=Ad (C:=ctx Tryz.prog [(173,Ic N),(234,Y2 N)] gI) (L:=mF) (fn:=Tryz.f191) (N:=N) (Ag ⟨Io N,nC N,trivial⟩)
end
noncomputable section
def RY (N:Nat):Sig:=.of [.cell false (.int .u8)] [.cell false .bool] (fun a=>Ja N a)
theorem UC (N:Nat):Spec Tryz.prog 299 (RY N):=Ad (C:=ctx Tryz.prog [] [] [] [] [] [5,8,9,12,15,16]) (L:=⟨[],[]⟩) (fn:=Tryz.f299) (N:=N) (Ag trivial)
def UB (N:Nat):Sig:=.of [.cell false (.int .u8)] [.cell false .bool] (fun a=>IM N a)
theorem VN (N:Nat):Spec Tryz.prog 300 (UB N):=Ad (C:=ctx Tryz.prog [] []) (L:=⟨[],[]⟩) (fn:=Tryz.f300) (N:=N) (Ag trivial)
def aC (N:Nat):Sig:=.of [.cell false .str] [.cell false .str,.cell false .str] (fun a=>QI N a)
theorem rQ (N:Nat):Spec Tryz.prog 277 (aC N):=Ad (C:=ctx Tryz.prog [] []) (L:=⟨[],[]⟩) (fn:=Tryz.f277) (N:=N) (Ag trivial)
def wV (N:Nat):Sig:=.of [.cell false .str,.cell false (.int .i64)] [.cell false .bool] (fun a=>Qz N a.1 a.2)
theorem Acv (N:Nat):Spec Tryz.prog 278 (wV N):=Ad (C:=ctx Tryz.prog [] []) (L:=⟨[],[]⟩) (fn:=Tryz.f278) (N:=N) (Ag trivial)
def Yo (N:Nat):Sig:=.of [.cell false .str] [.cell false .bool] (fun a=>Lt N a)
theorem mX (N:Nat):Spec Tryz.prog 250 (Yo N):=Ad (C:=ctx Tryz.prog [] []) (L:=⟨[],[]⟩) (fn:=Tryz.f250) (N:=N) (Ag trivial)
def LV (N:Nat):Sig:=.of [] [.cell false (.sl 92 Tq4)] (fun _=>Gz N)
theorem MV (N:Nat):Spec Tryz.prog 44 (LV N):=Ad (C:=ctx Tryz.prog [] []) (L:=⟨[],[]⟩) (fn:=Tryz.f44) (N:=N) (Ag trivial)
def Ye (N:Nat):Sig:=.of [.cell false (.int .i64)] [.cell false .bool] (fun a=>EI N a)
theorem lY (N:Nat):Spec Tryz.prog 53 (Ye N):=Ad (C:=ctx Tryz.prog [] []) (L:=⟨[],[]⟩) (fn:=Tryz.f53) (N:=N) (Ag trivial)
def oU (N:Nat):Sig:=.of [.cell false (.int .i64)] [.cell false (.int .i64)] (fun a=>kF N a)
theorem Abs (N:Nat):Spec Tryz.prog 279 (oU N):=Ad (C:=ctx Tryz.prog [] []) (L:=⟨[],[]⟩) (fn:=Tryz.f279) (N:=N) (Ag trivial)
end
noncomputable section
def AfQ:List (Nat×Nrm):=[(3,⟨[4],[([4],3,(.int .i64 .nil),1004096)],[],[(1000000,1004096)],[]⟩),(26,⟨[4,18,19,20],[([4],3,(.int .i64 .nil),1000000)],[],[(40704,1000000)],[]⟩)]
def Ait:Lk:=⟨[],[(26,⟨[(4,.c (xo 1000000)),(18,.i),(19,.i),(20,.c x64)],[(1000000,.arr 3 false (.int .i64 .nil))]⟩,[(0,⟨[(4,.c (xo 1004096))],[(1004096,.arr 3 false (.int .i64 .nil))]⟩)])]⟩
def Z8 (N:Nat):Sig:=.of [.cell false .str] [Sq3] (fun a=>UQ N a)
theorem aI (N:Nat):Spec Tryz.prog 204 (Z8 N):=Ad (C:=ctx Tryz.prog [(242,KW N),(243,AbM N),(244,xZ N)] AfQ) (L:=Ait) (fn:=Tryz.f204) (N:=N) (Ag ⟨RD N,AeC N,AcE N,trivial⟩)
def Abn (N:Nat):Sig:=.of [.cell false (.int .u8)] [.cell false .bool] (fun a=>J5 N a)
theorem nR (N:Nat):Spec Tryz.prog 285 (Abn N):=Ad (C:=ctx Tryz.prog [(286,aT N),(287,KN N)] []) (L:=⟨[],[]⟩) (fn:=Tryz.f285) (N:=N) (Ag ⟨uK N,Nz N,trivial⟩)
def Acy:List (Nat×Nrm):=[(3,⟨[],[],[],[],[]⟩),(18,⟨[27,28,29],[],[],[],[]⟩)]
def Aeh:Lk:=⟨[],[(18,⟨[(27,.c (xo 39680)),(28,.i),(29,.c x64)],[(39680,.arr 5 false (.int .u8 .nil))]⟩,[(0,⟨[],[]⟩)])]⟩
def iQ (N:Nat):Sig:=.of [.cell false .str] [.cell false .bool] (fun a=>Tm N a)
theorem wW (N:Nat):Spec Tryz.prog 296 (iQ N):=Ad (C:=ctx Tryz.prog [(299,RY N),(300,UB N)] Acy [] [] [] [8,12,13,17,18,25]) (L:=Aeh) (fn:=Tryz.f296) (N:=N) (Ag ⟨UC N,VN N,trivial⟩)
def Ac1:List (Nat×Nrm):=[(3,⟨[],[],[],[],[]⟩),(18,⟨[32,33,34],[],[],[],[]⟩)]
def Aej:Lk:=⟨[],[(18,⟨[(32,.c (xo 40960)),(33,.i),(34,.c x64)],[(40960,.arr 5 false (.int .u8 .nil))]⟩,[(0,⟨[],[]⟩)])]⟩
def iR (N:Nat):Sig:=.of [.cell false .str] [.cell false .bool] (fun a=>OZ N a)
theorem wX (N:Nat):Spec Tryz.prog 274 (iR N):=Ad (C:=ctx Tryz.prog [(276,LJ N),(299,RY N),(300,UB N),(287,KN N)] Ac1 [] [] [] [9,13,14,18,19,26,27,30]) (L:=Aej) (fn:=Tryz.f274) (N:=N) (Ag ⟨O5 N,UC N,VN N,Nz N,trivial⟩)
def Acu:List (Nat×Nrm):=[(3,⟨[],[],[],[],[]⟩),(26,⟨[3,4,5,6],[],[],[],[]⟩)]
def Aee:Lk:=⟨[],[(26,⟨[(3,.i),(4,.i),(5,.c xb),(6,.c x64)],[]⟩,[(0,⟨[],[]⟩)])]⟩
def iP (N:Nat):Sig:=.of [.cell false .str] [.cell false .bool] (fun a=>OY N a)
theorem wU (N:Nat):Spec Tryz.prog 249 (iP N):=Ad (C:=ctx Tryz.prog [(277,aC N),(278,wV N)] Acu [] [] [] [32,34,35,38,42,43]) (L:=Aee) (fn:=Tryz.f249) (N:=N) (Ag ⟨rQ N,Acv N,trivial⟩)
def vH:List (Nat×Nrm):=[(3,⟨[2],[],[],[],[]⟩),(10,⟨[0,2,6,7,8],[],[],[],[]⟩)]
def Aaf:Lk:=⟨[],[(10,⟨[(0,.i),(2,.c (.c (.ptr 33280 0))),(6,.i),(7,.i),(8,.c x64)],[(33280,.box [(.c (.str ([]:Bs))),(.c (.int .i64 0)),(.c (.fn 0)),(.c (.fn 0)),(.c (.fn 0))])]⟩,[(0,⟨[(2,.c (.c (.ptr 33280 0)))],[(33280,.box [(.c (.str ([]:Bs))),(.c (.int .i64 0)),(.c (.fn 0)),(.c (.fn 0)),(.c (.fn 0))])]⟩)])]⟩
def Qk (N:Nat):Sig:=.of [.cell false .str] [Sq8,.cell false .bool] (fun a=>Bq N a)
theorem SA (N:Nat):Spec Tryz.prog 159 (Qk N):=Ad (C:=ctx Tryz.prog [(44,LV N)] vH) (L:=Aaf) (fn:=Tryz.f159) (N:=N) (Ag ⟨MV N,trivial⟩)
def Agi:List (Nat×Nrm):=[(3,⟨[0,2,5,6,7,8,9],[],[],[],[]⟩),(74,⟨[0,2,5,6,7,8,9,50,51,52],[],[],[],[]⟩),(101,⟨[0,2,5,6,7,8],[],[],[],[]⟩)]
def AiR:Lk:=⟨[(101,⟨[(0,.i),(2,.c (.c (.ptr 33280 0))),(5,.c (.c (.ptr 34048 0))),(6,.i),(7,.c x64),(8,.c x64)],[(33280,.box [(.c (.int .i64 0)),(.c (.str ([]:Bs))),(.c (.str ([]:Bs)))]),(34048,.box [(.c (.int .i64 0)),(.c (.str ([]:Bs))),(.c (.str ([]:Bs)))])]⟩)],[(74,⟨[(0,.i),(2,.c (.c (.ptr 33280 0))),(5,.c (.c (.ptr 34048 0))),(6,.i),(7,.c x64),(8,.i),(9,.i),(50,.c (xo 45568)),(51,.i),(52,.c x64)],[(33280,.box [(.c (.int .i64 0)),(.c (.str ([]:Bs))),(.c (.str ([]:Bs)))]),(34048,.box [(.c (.int .i64 0)),(.c (.str ([]:Bs))),(.c (.str ([]:Bs)))]),(45568,.arr 5 false (.int .u8 .nil))]⟩,[(0,⟨[(0,.i),(2,.c (.c (.ptr 33280 0))),(5,.c (.c (.ptr 34048 0))),(6,.i),(7,.c x64),(8,.i),(9,.i)],[(33280,.box [(.c (.int .i64 0)),(.c (.str ([]:Bs))),(.c (.str ([]:Bs)))]),(34048,.box [(.c (.int .i64 0)),(.c (.str ([]:Bs))),(.c (.str ([]:Bs)))])]⟩)])]⟩
def TJ (N:Nat):Sig:=.of [.cell false .str] [Sq9,.cell false .str,.cell false (.int .i64)] (fun a=>Og N a)
theorem Sm (N:Nat):Spec Tryz.prog 251 (TJ N):=Ad (C:=ctx Tryz.prog [(279,oU N)] Agi) (L:=AiR) (fn:=Tryz.f251) (N:=N) (Ag ⟨Abs N,trivial⟩)
end
noncomputable section
def pX (N:Nat):Sig:=.of [Sq2] [.cell false .bool] (fun a=>Ql N a)
theorem bP (N:Nat):Spec Tryz.prog 110 (pX N):=Ad (C:=ctx Tryz.prog [] []) (L:=⟨[],[]⟩) (fn:=Tryz.f110) (N:=N) (Ag trivial)
def qA (N:Nat):Sig:=.of [Sq2] [.cell false .bool] (fun a=>Qm N a)
theorem bQ (N:Nat):Spec Tryz.prog 113 (qA N):=Ad (C:=ctx Tryz.prog [] []) (L:=⟨[],[]⟩) (fn:=Tryz.f113) (N:=N) (Ag trivial)
def qC (N:Nat):Sig:=.of [Sq2] [.cell false .bool] (fun a=>Qn N a)
theorem bT (N:Nat):Spec Tryz.prog 116 (qC N):=Ad (C:=ctx Tryz.prog [] []) (L:=⟨[],[]⟩) (fn:=Tryz.f116) (N:=N) (Ag trivial)
def qF (N:Nat):Sig:=.of [Sq2] [.cell false .bool] (fun a=>Qo N a)
theorem bU (N:Nat):Spec Tryz.prog 119 (qF N):=Ad (C:=ctx Tryz.prog [] []) (L:=⟨[],[]⟩) (fn:=Tryz.f119) (N:=N) (Ag trivial)
def qH (N:Nat):Sig:=.of [Sq2] [.cell false .bool] (fun a=>Qp N a)
theorem bV (N:Nat):Spec Tryz.prog 122 (qH N):=Ad (C:=ctx Tryz.prog [] []) (L:=⟨[],[]⟩) (fn:=Tryz.f122) (N:=N) (Ag trivial)
def qJ (N:Nat):Sig:=.of [Sq2] [.cell false .bool] (fun a=>Jo N a)
theorem bW (N:Nat):Spec Tryz.prog 125 (qJ N):=Ad (C:=ctx Tryz.prog [] []) (L:=⟨[],[]⟩) (fn:=Tryz.f125) (N:=N) (Ag trivial)
def qL (N:Nat):Sig:=.of [Sq2] [.cell false .bool] (fun a=>Qq N a)
theorem bY (N:Nat):Spec Tryz.prog 128 (qL N):=Ad (C:=ctx Tryz.prog [] []) (L:=⟨[],[]⟩) (fn:=Tryz.f128) (N:=N) (Ag trivial)
def qN (N:Nat):Sig:=.of [Sq2] [.cell false .bool] (fun a=>Qr N a)
theorem bZ (N:Nat):Spec Tryz.prog 131 (qN N):=Ad (C:=ctx Tryz.prog [] []) (L:=⟨[],[]⟩) (fn:=Tryz.f131) (N:=N) (Ag trivial)
end
noncomputable section
def qP (N:Nat):Sig:=.of [Sq2] [.cell false .bool] (fun a=>Qs N a)
theorem cO (N:Nat):Spec Tryz.prog 134 (qP N):=Ad (C:=ctx Tryz.prog [] []) (L:=⟨[],[]⟩) (fn:=Tryz.f134) (N:=N) (Ag trivial)
def lQ (N:Nat):Sig:=.of [Sq2] [.cell false .bool] (fun a=>OE N a)
theorem Za (N:Nat):Spec Tryz.prog 137 (lQ N):=Ad (C:=ctx Tryz.prog [] []) (L:=⟨[],[]⟩) (fn:=Tryz.f137) (N:=N) (Ag trivial)
def lT (N:Nat):Sig:=.of [Sq2] [.cell false .bool] (fun a=>OG N a)
theorem Zb (N:Nat):Spec Tryz.prog 140 (lT N):=Ad (C:=ctx Tryz.prog [] []) (L:=⟨[],[]⟩) (fn:=Tryz.f140) (N:=N) (Ag trivial)
def lV (N:Nat):Sig:=.of [Sq2] [.cell false .bool] (fun a=>OH N a)
theorem Zc (N:Nat):Spec Tryz.prog 143 (lV N):=Ad (C:=ctx Tryz.prog [] []) (L:=⟨[],[]⟩) (fn:=Tryz.f143) (N:=N) (Ag trivial)
def lX (N:Nat):Sig:=.of [Sq2] [.cell false .bool] (fun a=>OI N a)
theorem Zd (N:Nat):Spec Tryz.prog 146 (lX N):=Ad (C:=ctx Tryz.prog [] []) (L:=⟨[],[]⟩) (fn:=Tryz.f146) (N:=N) (Ag trivial)
def NS (N:Nat):Sig:=.of [.box [(false,.bool)]] [.cell false .bool] (fun a=>Js N a)
theorem PX (N:Nat):Spec Tryz.prog 45 (NS N):=Ad (C:=ctx Tryz.prog [] []) (L:=⟨[],[]⟩) (fn:=Tryz.f45) (N:=N) (Ag trivial)
def Du (N:Nat):Sig:=.of [.box [(false,.bool)],.cell false .str,.cell false (.int .i64)] [.cell false .str] (fun a=>BL N a.1 a.2.1 a.2.2)
theorem Dj (N:Nat):Spec Tryz.prog 71 (Du N):=Ad (C:=ctx Tryz.prog [] []) (L:=⟨[],[]⟩) (fn:=Tryz.f71) (N:=N) (Ag trivial)
def Agj:List (Nat×Nrm):=[(3,⟨[0,1,6],[],[],[],[]⟩),(22,⟨[0,1,6,21,22,23],[],[],[],[]⟩),(77,⟨[1,9],[],[],[(45568,1008192),(47616,1008192),(49664,1008192),(52480,1008192)],[]⟩)]
def AiT:Lk:=⟨[(77,⟨[(1,.i),(9,.c (xo 1008192))],[(1008192,.arr 5 false (.int .u8 .nil))]⟩)],[(22,⟨[(0,.i),(1,.i),(6,.c x64),(21,.i),(22,.i),(23,.c x64)],[]⟩,[(0,⟨[(0,.i),(1,.i),(6,.c x64)],[]⟩)])]⟩
def JS (N:Nat):Sig:=.of [.cell false (.int .i64),Sq1] [.cell false .str,.cell false (.int .i64)] (fun a=>Cb N a.1 a.2)
theorem IE (N:Nat):Spec Tryz.prog 164 (JS N):=Ad (C:=ctx Tryz.prog [(215,QB N)] Agj) (L:=AiT) (fn:=Tryz.f164) (N:=N) (Ag ⟨SK N,trivial⟩)
end
noncomputable section
def gJ (N n:Nat):Sig:=.of [Sq2] [.cell false .bool] (kP N n)
theorem vS (N:Nat):SL Tryz.prog (gJ N):=TK (Af:=[Sq2]) (A7:=[.cell false .bool]) (l:=[(110,fun a=>Ql N a),(113,fun a=>Qm N a),(116,fun a=>Qn N a),(119,fun a=>Qo N a),(122,fun a=>Qp N a),(125,fun a=>Jo N a),(128,fun a=>Qq N a),(131,fun a=>Qr N a),(134,fun a=>Qs N a),(137,fun a=>OE N a),(140,fun a=>OG N a),(143,fun a=>OH N a),(146,fun a=>OI N a)]) ⟨bP N,bQ N,bT N,bU N,bV N,bW N,bY N,bZ N,cO N,Za N,Zb N,Zc N,Zd N,trivial⟩
def Df (N:Nat):Sig:=.of [.box [(false,.bool)],.cell false (.int .i64),Sq1] [.cell false .str] (fun a=>Ak N a.1 a.2.1 a.2.2)
theorem CE (N:Nat):Spec Tryz.prog 70 (Df N):=Ad (C:=ctx Tryz.prog [(164,JS N),(71,Du N)] []) (L:=⟨[],[]⟩) (fn:=Tryz.f70) (N:=N) (Ag ⟨IE N,Dj N,trivial⟩)
def UG (N:Nat):Sig:=.of [TS] [Al0] (fun a=>MH N a)
theorem dI (N:Nat):Spec Tryz.prog 188 (UG N):=Ad (C:=ctx Tryz.prog [(33,Dn N)] []) (L:=⟨[],[]⟩) (fn:=Tryz.f188) (N:=N) (Ag ⟨CW N,trivial⟩)
def Aez:List (Nat×Nrm):=[(3,⟨[5],[([5],9,(.str .nil),1016384)],[],[(1000000,1016384)],[]⟩),(11,⟨[0,1,5,6,7,8],[([5],9,(.str .nil),1012288)],[],[(1008192,1012288)],[]⟩),(14,⟨[0,1,5,6],[([5],9,(.str .nil),1000000)],[],[(44288,1000000),(1012288,1000000)],[]⟩),(33,⟨[0,1,5,6,7],[([5],9,(.str .nil),1004096)],[],[(1000000,1004096)],[]⟩),(42,⟨[0,1,5,6,7,8,27,28,29],[([5,27],9,(.str .nil),1008192)],[],[(1004096,1008192)],[]⟩)]
def AfJ:Lk:=⟨[(33,⟨[(0,.c (.c (.ptr 0 0))),(1,.i),(5,.c (xo 1004096)),(6,.i),(7,.c xs)],[(0,.box [(xl (.int .i64 .nil)),x64]),(1004096,.arr 9 false (.str .nil))]⟩)],[(14,⟨[(0,.c (.c (.ptr 0 0))),(1,.i),(5,.c (xo 1000000)),(6,.c x64)],[(0,.box [(xl (.int .i64 .nil)),x64]),(1000000,.arr 9 false (.str .nil))]⟩,[(0,⟨[(5,.c (xo 1016384))],[(0,.box [(xl (.int .i64 .nil)),x64]),(1016384,.arr 9 false (.str .nil))]⟩)]),(42,⟨[(0,.c (.c (.ptr 0 0))),(1,.i),(5,.c (xo 1008192)),(6,.i),(7,.i),(8,.c xb),(27,.c (xo 1008192)),(28,.i),(29,.c x64)],[(0,.box [(xl (.int .i64 .nil)),x64]),(1008192,.arr 9 false (.str .nil))]⟩,[(2,⟨[(0,.c (.c (.ptr 0 0))),(1,.i),(5,.c (xo 1012288)),(6,.i),(7,.i),(8,.c xb)],[(0,.box [(xl (.int .i64 .nil)),x64]),(1012288,.arr 9 false (.str .nil))]⟩)])]⟩
def oH (N:Nat):Sig:=.of [TS,.cell false .bool] [AqE] (fun a=>Rx N a.1 a.2)
theorem AaQ (N:Nat):Spec Tryz.prog 96 (oH N):=Ad (C:=ctx Tryz.prog [(33,Dn N),(41,RZ N)] Aez) (L:=AfJ) (fn:=Tryz.f96) (N:=N) (Ag ⟨CW N,UF N,trivial⟩)
def sJ:List (Nat×Nrm):=[(3,⟨[3],[([3],74,(.str (.str .nil)),1012288)],[],[(1000000,1012288)],[]⟩),(11,⟨[0,3,4,5,6],[([3],74,(.str (.str .nil)),1008192)],[],[(1004096,1008192)],[]⟩),(14,⟨[0,3,4],[([3],74,(.str (.str .nil)),1000000)],[],[(43264,1000000),(1008192,1000000)],[]⟩),(34,⟨[0,3,4,5,6,23,24,25],[([3,23],74,(.str (.str .nil)),1004096)],[],[(1000000,1004096)],[]⟩)]
def xN:Lk:=⟨[],[(14,⟨[(0,.c (.c (.ptr 0 0))),(3,.c (xo 1000000)),(4,.c x64)],[(0,.box [(xl (.int .i64 .nil)),x64]),(1000000,.arr 74 false (.str (.str .nil)))]⟩,[(0,⟨[(3,.c (xo 1012288))],[(0,.box [(xl (.int .i64 .nil)),x64]),(1012288,.arr 74 false (.str (.str .nil)))]⟩)]),(34,⟨[(0,.c (.c (.ptr 0 0))),(3,.c (xo 1004096)),(4,.i),(5,.c (.c (.ptr 34048 0))),(6,.c xb),(23,.c (xo 1004096)),(24,.i),(25,.c x64)],[(0,.box [(xl (.int .i64 .nil)),x64]),(34048,.box [xs,xs]),(1004096,.arr 74 false (.str (.str .nil)))]⟩,[(2,⟨[(0,.c (.c (.ptr 0 0))),(3,.c (xo 1008192)),(4,.i),(5,.c (.c (.ptr 34048 0))),(6,.c xb)],[(0,.box [(xl (.int .i64 .nil)),x64]),(34048,.box [xs,xs]),(1008192,.arr 74 false (.str (.str .nil)))]⟩)])]⟩
def VT (N:Nat):Sig:=.of [TS] [AqF] (fun a=>NI N a)
theorem jC (N:Nat):Spec Tryz.prog 97 (VT N):=Ad (C:=ctx Tryz.prog [(33,Dn N),(41,RZ N)] sJ) (L:=xN) (fn:=Tryz.f97) (N:=N) (Ag ⟨CW N,UF N,trivial⟩)
def mZ:List (Nat×Nrm):=[(17,⟨[0,2,3],[],[],[],[]⟩)]
def rY:Lk:=⟨[(17,⟨[(0,.i),(2,.c (.c (.ptr 33280 0))),(3,.c xs)],[(33280,.box [(xo 33281)]),(33281,.Bg 175 false (.sl 177 Tq0 .nil))]⟩)],[]⟩
def UE (N:Nat):Sig:=.of [.cell false (.int .i64)] [Sq0] (fun a=>Jw N a)
theorem dH (N:Nat):Spec Tryz.prog 180 (UE N):=Ad (C:=ctx Tryz.prog [(227,oO N)] mZ) (L:=rY) (fn:=Tryz.f180) (N:=N) (Ag ⟨Abh N,trivial⟩)
end
noncomputable section
def KE (N:Nat):Sig:=.of [.cell false .str] [.cell false .bool] (fun a=>BF N a)
theorem Jz (N:Nat):Spec Tryz.prog 156 (KE N):=Ad (C:=ctx Tryz.prog [(204,Z8 N)] []) (L:=⟨[],[]⟩) (fn:=Tryz.f156) (N:=N) (Ag ⟨aI N,trivial⟩)
def Ab4 (N n:Nat):Sig:=.of [.cell false (.int .u8)] [.cell false .bool] (kR N n)
theorem Ahz (N:Nat):SL Tryz.prog (Ab4 N):=TK (Af:=[.cell false (.int .u8)]) (A7:=[.cell false .bool]) (l:=[(285,fun a=>J5 N a),(288,fun a=>J6 N a)]) ⟨nR N,nS N,trivial⟩
def Af9:List (Nat×Nrm):=[(3,⟨[],[],[],[],[]⟩),(18,⟨[9,10,11],[],[],[],[]⟩)]
def AhG:Lk:=⟨[],[(18,⟨[(9,.i),(10,.i),(11,.c x64)],[]⟩,[(0,⟨[],[]⟩)])]⟩
def OX (N:Nat):Sig:=.of [.cell false .str] [.cell false .bool] (fun a=>GL N a)
theorem ND (N:Nat):Spec Tryz.prog 271 (OX N):=Ad (C:=ctx Tryz.prog [(242,KW N),(296,iQ N)] Af9) (L:=AhG) (fn:=Tryz.f271) (N:=N) (Ag ⟨RD N,wW N,trivial⟩)
def RF (N:Nat):Sig:=.of [.cell false .str] [Sq9,.cell false (.int .i64)] (fun a=>O6 N a)
theorem PT (N:Nat):Spec Tryz.prog 207 (RF N):=Ad (C:=ctx Tryz.prog [(251,TJ N)] []) (L:=⟨[],[]⟩) (fn:=Tryz.f207) (N:=N) (Ag ⟨Sm N,trivial⟩)
def AcW:List (Nat×Nrm):=[(3,⟨[],[],[],[],[]⟩),(18,⟨[1,5],[],[],[],[]⟩)]
def Afk:Lk:=⟨[],[(18,⟨[(1,.i),(5,.c xs)],[]⟩,[(0,⟨[],[]⟩)])]⟩
def Sr (N n:Nat):Sig:=.of [Sq9,.cell false (.int .i64)] [.cell false (.int .i64)] (fun a=>JU N n a.1 a.2)
theorem Vj (N:Nat): ∀ n,Spec Tryz.prog 208 (Sr N n)
  | 0=>AbZ (C:=ctx Tryz.prog [] []) (fn:=Tryz.f208) (Ag (gs:=[]) trivial) (by kernel_rfl) (by kernel_rfl)
  | n+1=>Ad (C:=ctx Tryz.prog ((208,Sr N n)::[(251,TJ N)]) AcW) (L:=Afk) (fn:=Tryz.f208) (N:=N) (Ag ⟨Vj N n,⟨Sm N,trivial⟩⟩)
def kG (N:Nat):Sig:=Sr N N
theorem zM (N:Nat):Spec Tryz.prog 208 (kG N):=Vj N N
def DI (N:Nat):Sig:=.of [.box [(false,.bool)],Sq1] [.cell false .str] (fun a=>AZ N a.1 a.2)
theorem Dt (N:Nat):Spec Tryz.prog 75 (DI N):=Ad (C:=ctx Tryz.prog [(70,Df N)] []) (L:=⟨[],[]⟩) (fn:=Tryz.f75) (N:=N) (Ag ⟨CE N,trivial⟩)
def NT (N:Nat):Sig:=.of [.box [(false,.bool)],.cell false (.int .i64)] [.cell false .str] (fun a=>Jt N a.1 a.2)
theorem PY (N:Nat):Spec Tryz.prog 189 (NT N):=Ad (C:=ctx Tryz.prog [(199,MX N),(70,Df N)] []) (L:=⟨[],[]⟩) (fn:=Tryz.f189) (N:=N) (Ag ⟨P8 N,CE N,trivial⟩)
end
noncomputable section
def dK:List (Nat×Nrm):=[(3,⟨[],[],[],[],[]⟩),(18,⟨[0,1,12,13],[],[],[],[]⟩)]
def jR:Lk:=⟨[],[(18,⟨[(0,.i),(1,.i),(12,.i),(13,.c x64)],[]⟩,[(0,⟨[],[]⟩)])]⟩
def LG (N:Nat):Sig:=.of [.cell false (.sl 111 Tq2),.cell false (.sl 111 Tq2)] [.cell false .bool] (fun a=>Dp N a.1 a.2)
theorem Oz (N:Nat):Spec Tryz.prog 38 (LG N):=Ad (C:=ctx Tryz.prog [(105,Hq N),(108,Oa N)] dK [] [] [] [28,40,41,53,54,67]) (L:=jR) (fn:=Tryz.f38) (N:=N) (Ag ⟨Iw N,Qa N,trivial⟩)
def PG (N:Nat):Sig:=.of [Sq7,Sq7] [.cell false .bool] (fun a=>G6 N a.1 a.2)
theorem V9 (N:Nat):Spec Tryz.prog 106 (PG N):=Ad (C:=ctx Tryz.prog [(105,Hq N)] []) (L:=⟨[],[]⟩) (fn:=Tryz.f106) (N:=N) (Ag ⟨Iw N,trivial⟩)
def Agh:List (Nat×Nrm):=[(3,⟨[4],[([4],123,Tq6,1004096)],[],[(1000000,1004096)],[]⟩),(10,⟨[0,4],[([4],123,Tq6,1000000)],[],[(38400,1000000)],[]⟩)]
def AiP:Lk:=⟨[],[(10,⟨[(0,.c xs),(4,.c (xo 1000000))],[(1000000,.arr 123 false Tq6)]⟩,[(0,⟨[(4,.c (xo 1004096))],[(1004096,.arr 123 false Tq6)]⟩)])]⟩
def IX (N:Nat):Sig:=.of [.cell false .str] [.cell false (.sl 123 Tq6),.cell false (.int .i64)] (fun a=>DU N a)
theorem GN (N:Nat):Spec Tryz.prog 220 (IX N):=Ad (C:=ctx Tryz.prog [(251,TJ N)] Agh) (L:=AiP) (fn:=Tryz.f220) (N:=N) (Ag ⟨Sm N,trivial⟩)
def AcF:List (Nat×Nrm):=[(3,⟨[8],[],[],[],[]⟩),(46,⟨[4,8,35,36],[],[],[],[]⟩)]
def AeJ:Lk:=⟨[],[(46,⟨[(4,.i),(8,.c x64),(35,.i),(36,.c x64)],[]⟩,[(0,⟨[(8,.c x64)],[]⟩)])]⟩
def UX (N:Nat):Sig:=.of [.cell false .str] [.cell false (.int .i64),.cell false (.int .i64)] (fun a=>MI N a)
theorem Wj (N:Nat):Spec Tryz.prog 175 (UX N):=Ad (C:=ctx Tryz.prog [(223,oM N),(224,yL N)] AcF) (L:=AeJ) (fn:=Tryz.f175) (N:=N) (Ag ⟨AaY N,AcG N,trivial⟩)
end
noncomputable section
def Agf:List (Nat×Nrm):=[(3,⟨[],[],[],[],[]⟩),(10,⟨[0,1,5],[],[],[],[]⟩)]
def AiN:Lk:=⟨[],[(10,⟨[(0,.i),(1,.i),(5,.c x64)],[]⟩,[(0,⟨[],[]⟩)])]⟩
def zI (N:Nat):Sig:=.of [.cell false .str,.cell false .fn] [.cell false .bool] (fun a=>Oe N a.1 a.2)
theorem AcS (N:Nat):Spec Tryz.prog 284 (zI N):=Ad (C:=ctx Tryz.prog [] Agf [] [(12,Ab4 N)]) (L:=AiN) (fn:=Tryz.f284) (N:=N) (Ag trivial trivial ⟨Ahz N,trivial⟩)
def Xc (N:Nat):Sig:=.of [.cell false .str] [.cell false .bool] (fun a=>Lu N a)
theorem Yp (N:Nat):Spec Tryz.prog 246 (Xc N):=Ad (C:=ctx Tryz.prog [(273,aQ N),(274,iR N),(271,OX N)] [] [] [] [] [13,17,18,21,22,25]) (L:=⟨[],[]⟩) (fn:=Tryz.f246) (N:=N) (Ag ⟨uF N,wX N,ND N,trivial⟩)
def o8 (N:Nat):Sig:=.of [.cell false .str] [.cell false .bool] (fun a=>Rn N a)
theorem AaD (N:Nat):Spec Tryz.prog 247 (o8 N):=Ad (C:=ctx Tryz.prog [(271,OX N)] []) (L:=⟨[],[]⟩) (fn:=Tryz.f247) (N:=N) (Ag ⟨ND N,trivial⟩)
def Yq (N:Nat):Sig:=.of [.cell false .str] [.cell false .bool] (fun a=>L6 N a)
theorem mY (N:Nat):Spec Tryz.prog 248 (Yq N):=Ad (C:=ctx Tryz.prog [(275,Qc N),(271,OX N),(276,LJ N)] []) (L:=⟨[],[]⟩) (fn:=Tryz.f248) (N:=N) (Ag ⟨Xr N,ND N,O5 N,trivial⟩)
def aW:List (Nat×Nrm):=[(3,⟨[],[],[],[],[]⟩),(11,⟨[0,13,14,15],[],[],[],[]⟩),(18,⟨[0,13,14,15],[],[],[],[]⟩),(38,⟨[0,6,13,14,15,25,26,27],[],[],[],[]⟩)]
def eH:Lk:=⟨[],[(18,⟨[(0,.i),(13,.i),(14,.i),(15,.c x64)],[]⟩,[(0,⟨[],[]⟩)]),(38,⟨[(0,.i),(6,.i),(13,.i),(14,.i),(15,.i),(25,.i),(26,.i),(27,.c x64)],[]⟩,[(2,⟨[(0,.i),(13,.i),(14,.i),(15,.i)],[]⟩)])]⟩
def QX (N:Nat):Sig:=.of [Sq1,.cell false (.int .i64)] [.cell false (.int .i64)] (fun a=>HY N a.1 a.2)
theorem X5 (N:Nat):Spec Tryz.prog 54 (QX N):=Ad (C:=ctx Tryz.prog [(156,KE N)] aW) (L:=eH) (fn:=Tryz.f54) (N:=N) (Ag ⟨Jz N,trivial⟩)
def Ub:List (Nat×Nrm):=[(3,⟨[],[],[],[],[]⟩),(11,⟨[0,10,11,12],[],[],[],[]⟩),(18,⟨[0,10,11,12],[],[],[],[]⟩),(38,⟨[0,4,10,11,12,29,30,31],[],[],[],[]⟩)]
def Vo:Lk:=⟨[],[(18,⟨[(0,.i),(10,.i),(11,.i),(12,.c x64)],[]⟩,[(0,⟨[],[]⟩)]),(38,⟨[(0,.i),(4,.c (.c (.ptr 33792 0))),(10,.i),(11,.i),(12,.i),(29,.i),(30,.i),(31,.c x64)],[(33792,.box [xs,xs])]⟩,[(2,⟨[(0,.i),(10,.i),(11,.i),(12,.i)],[]⟩)])]⟩
def MN (N:Nat):Sig:=.of [Sq6] [.cell false (.int .i64)] (fun a=>G9 N a)
theorem RJ (N:Nat):Spec Tryz.prog 55 (MN N):=Ad (C:=ctx Tryz.prog [(156,KE N)] Ub) (L:=Vo) (fn:=Tryz.f55) (N:=N) (Ag ⟨Jz N,trivial⟩)
def Xt (N:Nat):Sig:=.of [.cell false .str] [.cell false (.int .i64)] (fun a=>IW N a)
theorem YE (N:Nat):Spec Tryz.prog 160 (Xt N):=Ad (C:=ctx Tryz.prog [(207,RF N),(208,kG N)] []) (L:=⟨[],[]⟩) (fn:=Tryz.f160) (N:=N) (Ag ⟨PT N,zM N,trivial⟩)
end
noncomputable section
def SC (N:Nat):Sig:=.of [.box [(false,.bool)],.cell false (.int .i64),.cell false .bool] [.cell false .str] (fun a=>IL N a.1 a.2.1 a.2.2)
theorem Zh (N:Nat):Spec Tryz.prog 190 (SC N):=Ad (C:=ctx Tryz.prog [(233,SH N),(70,Df N)] []) (L:=⟨[],[]⟩) (fn:=Tryz.f190) (N:=N) (Ag ⟨ZA N,CE N,trivial⟩)
def fP (N:Nat):Sig:=.of [.box [(false,.bool)],Sq2] [.cell false .str] (fun a=>FZ N a.1 a.2)
theorem Yd (N:Nat):Spec Tryz.prog 114 (fP N):=Ad (C:=ctx Tryz.prog [(73,P7 N),(71,Du N),(70,Df N)] []) (L:=⟨[],[]⟩) (fn:=Tryz.f114) (N:=N) (Ag ⟨Rz N,Dj N,CE N,trivial⟩)
def AcB:List (Nat×Nrm):=[(3,⟨[5],[],[],[(37888,1004096),(1000000,1004096)],[]⟩),(26,⟨[5,22,23,24],[],[],[(37888,1000000),(40448,1000000)],[]⟩)]
def AeA:Lk:=⟨[],[(26,⟨[(5,.c (xo 1000000)),(22,.i),(23,.i),(24,.c x64)],[(1000000,.arr 5 true (.int .u8 .nil))]⟩,[(0,⟨[(5,.c (xo 1004096))],[(1004096,.arr 5 true (.int .u8 .nil))]⟩)])]⟩
def UO (N:Nat):Sig:=.of [.cell false .str] [.cell false .str,.cell false (.int .i64)] (fun a=>Px N a)
theorem VZ (N:Nat):Spec Tryz.prog 236 (UO N):=Ad (C:=ctx Tryz.prog [(204,Z8 N),(267,AbN N)] AcB) (L:=AeA) (fn:=Tryz.f236) (N:=N) (Ag ⟨aI N,AeD N,trivial⟩)
def YZ (N:Nat):Sig:=.of [.box [(false,.bool)],Sq2] [.cell false .str] (fun a=>EY N a.1 a.2)
theorem V3 (N:Nat):Spec Tryz.prog 138 (YZ N):=Ad (C:=ctx Tryz.prog [(70,Df N)] []) (L:=⟨[],[]⟩) (fn:=Tryz.f138) (N:=N) (Ag ⟨CE N,trivial⟩)
def Aey:List (Nat×Nrm):=[(3,⟨[2,3],[],[],[(33637,1012288),(1000000,1012288)],[]⟩),(11,⟨[0,2,3,4,5],[([5],177,Tq0,1008192)],[],[(33637,1008208),(1004096,1008192),(1004112,1008208)],[]⟩),(14,⟨[0,2,3,4],[],[],[(33637,1000000),(44288,1000000)],[]⟩),(30,⟨[0,2,3,4,5,6],[([5],177,Tq0,1004096)],[],[(33637,1004112),(43008,1004096),(1000000,1004112)],[]⟩)]
def AfH:Lk:=⟨[],[(14,⟨[(0,.c (.c (.ptr 0 0))),(2,.c (.c (.ptr 33280 0))),(3,.c (.c (.ptr 33536 0))),(4,.c x64)],[(0,.box [(xl (.int .i64 .nil)),x64]),(33280,.box [(xo 33281)]),(33281,.Bg 175 false (.sl 177 Tq0 .nil)),(33536,.box [(xo 1000000)]),(1000000,.arr 175 false (.sl 177 Tq0 .nil))]⟩,[(0,⟨[(2,.c (.c (.ptr 33280 0))),(3,.c (.c (.ptr 33536 0)))],[(0,.box [(xl (.int .i64 .nil)),x64]),(33280,.box [(xo 33281)]),(33281,.Bg 175 false (.sl 177 Tq0 .nil)),(33536,.box [(xo 1012288)]),(1012288,.arr 175 false (.sl 177 Tq0 .nil))]⟩)]),(30,⟨[(0,.c (.c (.ptr 0 0))),(2,.c (.c (.ptr 33280 0))),(3,.c (.c (.ptr 33536 0))),(4,.i),(5,.c (xo 1004096)),(6,.c x64)],[(0,.box [(xl (.int .i64 .nil)),x64]),(33280,.box [(xo 33281)]),(33281,.Bg 175 false (.sl 177 Tq0 .nil)),(33536,.box [(xo 1004112)]),(1004096,.arr 177 false Tq0),(1004112,.arr 175 false (.sl 177 Tq0 .nil))]⟩,[(2,⟨[(0,.c (.c (.ptr 0 0))),(2,.c (.c (.ptr 33280 0))),(3,.c (.c (.ptr 33536 0))),(4,.i),(5,.c (xo 1008192))],[(0,.box [(xl (.int .i64 .nil)),x64]),(33280,.box [(xo 33281)]),(33281,.Bg 175 false (.sl 177 Tq0 .nil)),(33536,.box [(xo 1008208)]),(1008192,.arr 177 false Tq0),(1008208,.arr 175 false (.sl 177 Tq0 .nil))]⟩)])]⟩
def Xh (N:Nat):Sig:=.of [TS] [Sq0] (fun a=>Ru N a)
theorem Yv (N:Nat):Spec Tryz.prog 109 (Xh N):=Ad (C:=ctx Tryz.prog [(33,Dn N),(188,UG N)] Aey) (L:=AfH) (fn:=Tryz.f109) (N:=N) (Ag ⟨CW N,dI N,trivial⟩)
end
noncomputable section
def Va (N:Nat):Sig:=.of [Sq2,Sq2] [.cell false .bool] (fun a=>Em N a.1 a.2)
theorem dJ (N:Nat):Spec Tryz.prog 36 (Va N):=Ad (C:=ctx Tryz.prog [(103,Qb N),(104,PH N),(105,Hq N),(106,PG N),(38,LG N),(17,Nu N)] [] [] [] [] [10,16,17,23,24,30,31,37,38,44,45,51,52,58,59,65,66,72,73,79,80,86,87,93,94,100,101,107,108,114,115,121,122,128]) (L:=⟨[],[]⟩) (fn:=Tryz.f36) (N:=N) (Ag ⟨Xp N,VA N,Iw N,V9 N,Oz N,TA N,trivial⟩)
def Lm (N:Nat):Sig:=.of [.cell false .str,.cell false (.int .i64)] [Sq9,.cell false (.int .i64)] (fun a=>Jp N a.1 a.2)
theorem Jq (N:Nat):Spec Tryz.prog 170 (Lm N):=Ad (C:=ctx Tryz.prog [(207,RF N)] []) (L:=⟨[],[]⟩) (fn:=Tryz.f170) (N:=N) (Ag ⟨PT N,trivial⟩)
def LX (N:Nat):Alt:=.of [.cell false .str] [Qd,.cell false (.int .i64)] [.cell false .ptr,.cell false (.int .i64)] (fun a=>Ib N a)
theorem Us (N:Nat):Spec Tryz.prog 171 (LX N).1/\Spec Tryz.prog 171 (LX N).2.1:=SS (C:=ctx Tryz.prog [(220,IX N)] []) (L:=⟨[],[]⟩) (fn:=Tryz.f171) (N:=N) (Ag ⟨GN N,trivial⟩) (by kernel_rfl) (by kernel_rfl) (fun a=>by kernel_rfl)
end
noncomputable section
def JE (N:Nat):Sig:=.of [.cell false .str] [.cell false (.int .i64),.cell false (.int .i64)] (fun a=>EW N a)
theorem KG (N:Nat):Spec Tryz.prog 192 (JE N):=Ad (C:=ctx Tryz.prog [(235,Y3 N)] []) (L:=⟨[],[]⟩) (fn:=Tryz.f192) (N:=N) (Ag ⟨nD N,trivial⟩)
def AdF (N n:Nat):Sig:=.of [Sq1,zU] [] (Ajr N n)
theorem Ajs (N:Nat):SL Tryz.prog (AdF N):=TK (Af:=[Sq1,zU]) (A7:=[]) (l:=[(197,fun a=>Jn N a.1 a.2)]) ⟨RP N,trivial⟩
def AdG (N n:Nat):Sig:=.of [Sq1,zU] [] (Ajt N n)
theorem Aju (N:Nat):SL Tryz.prog (AdG N):=TK (Af:=[Sq1,zU]) (A7:=[]) (l:=[(198,fun a=>Jm N a.1 a.2)]) ⟨RN N,trivial⟩
end
noncomputable section
def KO (N:Nat):Sig:=.of [Qd] [.cell false .str,.cell false (.int .i64)] (fun a=>I7 N a)
theorem Lj (N:Nat):Spec Tryz.prog 195 (KO N):=Ad (C:=ctx Tryz.prog [(172,Jh N),(237,UN N)] []) (L:=⟨[],[]⟩) (fn:=Tryz.f195) (N:=N) (Ag ⟨JG N,VY N,trivial⟩)
end
noncomputable section
def Ux:List (Nat×Nrm):=[(85,⟨[2,4,5,7],[],[],[],[]⟩)]
def V4:Lk:=⟨[(85,⟨[(2,.c (.c (.ptr 33280 0))),(4,.c (.c (.ptr 33792 0))),(5,.i),(7,.i)],[(33280,.box [(.c (.str ([]:Bs))),(.c (.int .i64 0)),(.c (.str ([]:Bs)))]),(33792,.box [(.c (.str ([]:Bs))),(.c (.int .i64 0)),(.c (.str ([]:Bs)))])]⟩)],[]⟩
def MP (N:Nat):Sig:=.of [Sq9] [Al0,.cell false (.int .i64)] (fun a=>GG N a)
theorem RQ (N:Nat):Spec Tryz.prog 309 (MP N):=Ad (C:=ctx Tryz.prog [(220,IX N),(237,UN N)] Ux) (L:=V4) (fn:=Tryz.f309) (N:=N) (Ag ⟨GN N,VY N,trivial⟩)
end
noncomputable section
def LZ (N:Nat):Alt:=.of [.cell false .str,.cell false (.int .i64)] [Qd,.cell false (.int .i64)] [.cell false .ptr,.cell false (.int .i64)] (fun a=>JF N a.1 a.2)
theorem OM (N:Nat):Spec Tryz.prog 84 (LZ N).1/\Spec Tryz.prog 84 (LZ N).2.1:=SS (C:=ctx Tryz.prog [(170,Lm N)] [] [(171,LX N)]) (L:=⟨[],[]⟩) (fn:=Tryz.f84) (N:=N) (Ag ⟨Jq N,trivial⟩ ⟨Us N,trivial⟩) (by kernel_rfl) (by kernel_rfl) (fun a=>by kernel_rfl)
def FT (N:Nat):Alt:=.of [Qd] [Qd,.cell false (.int .i64)] [.cell false .ptr,.cell false (.int .i64)] (fun a=>DL N a)
theorem Jr (N:Nat):Spec Tryz.prog 86 (FT N).1/\Spec Tryz.prog 86 (FT N).2.1:=SS (C:=ctx Tryz.prog [(172,Jh N)] [] [(171,LX N)]) (L:=⟨[],[]⟩) (fn:=Tryz.f86) (N:=N) (Ag ⟨JG N,trivial⟩ ⟨Us N,trivial⟩) (by kernel_rfl) (by kernel_rfl) (fun a=>by kernel_rfl)
def V6:List (Nat×Nrm):=[(3,⟨[6],[([6],177,Tq0,1004096)],[],[(1000000,1004096)],[]⟩),(42,⟨[6,26,27,28],[([6],177,Tq0,1000000)],[],[(43776,1000000)],[]⟩)]
def WY:Lk:=⟨[],[(42,⟨[(6,.c (xo 1000000)),(26,.i),(27,.i),(28,.c x64)],[(1000000,.arr 177 false Tq0)]⟩,[(0,⟨[(6,.c (xo 1004096))],[(1004096,.arr 177 false Tq0)]⟩)])]⟩
def Nh (N:Nat):Sig:=.of [Sq9] [.cell false (.sl 177 Tq0),.cell false (.int .i64)] (fun a=>Hm N a)
theorem Tf (N:Nat):Spec Tryz.prog 289 (Nh N):=Ad (C:=ctx Tryz.prog [(220,IX N),(308,Ws N),(309,MP N)] V6) (L:=WY) (fn:=Tryz.f289) (N:=N) (Ag ⟨GN N,kE N,RQ N,trivial⟩)
def fB (N:Nat):Sig:=.of [.cell false .str,MR] [.cell false (.int .i64)] (fun a=>EP N a.1 a.2)
theorem XM (N:Nat):Spec Tryz.prog 115 (fB N):=Ad (C:=ctx Tryz.prog [(170,Lm N),(175,UX N)] []) (L:=⟨[],[]⟩) (fn:=Tryz.f115) (N:=N) (Ag ⟨Jq N,Wj N,trivial⟩)
end
noncomputable section
def bG:List (Nat×Nrm):=[(17,⟨[0,3,5],[],[],[],[]⟩)]
def fG:Lk:=⟨[(17,⟨[(0,.c (.c (.ptr 0 0))),(3,.c (.c (.ptr 33536 0))),(5,.c xs)],[(0,.box [xb]),(33536,.box [xb,xb,x64,x64,(xl (.str .nil)),(xl (.str .nil)),(xl (.str (.str .nil))),x64,x64,x64,(xl Tq1),xb,(xl Tq1),(xl Tq1),xs,xs,(xl Tq2),(xl Tq2),(xl Tq3)])]⟩)],[]⟩
def fJ (N:Nat):Sig:=.of [.box [(false,.bool)],Sq2] [.cell false .str] (fun a=>FX N a.1 a.2)
theorem XP (N:Nat):Spec Tryz.prog 111 (fJ N):=Ad (C:=ctx Tryz.prog [(189,NT N),(190,SC N),(75,DI N)] bG) (L:=fG) (fn:=Tryz.f111) (N:=N) (Ag ⟨PY N,Zh N,Dt N,trivial⟩)
def KP (N:Nat):Sig:=.of [.box [(false,.bool)],.cell false .str] [.cell false .str] (fun a=>GK N a.1 a.2)
theorem Ll (N:Nat):Spec Tryz.prog 193 (KP N):=Ad (C:=ctx Tryz.prog [(236,UO N),(71,Du N),(70,Df N)] []) (L:=⟨[],[]⟩) (fn:=Tryz.f193) (N:=N) (Ag ⟨VZ N,Dj N,CE N,trivial⟩)
def YX:List (Nat×Nrm):=[(3,⟨[0,5],[],[],[],[]⟩),(14,⟨[0,5,13,14,15],[],[],[],[]⟩)]
def bH:Lk:=⟨[],[(14,⟨[(0,.c (.c (.ptr 0 0))),(5,.c (xo 34816)),(13,.c (xo 36096)),(14,.i),(15,.c x64)],[(0,.box [xb]),(34816,.arr 9 false (.str .nil)),(36096,.arr 3 false (.int .i64 .nil))]⟩,[(0,⟨[(0,.c (.c (.ptr 0 0))),(5,.c (xo 34816))],[(0,.box [xb]),(34816,.arr 9 false (.str .nil))]⟩)])]⟩
def bJ (N:Nat):Sig:=.of [.box [(false,.bool)],Sq2] [.cell false .str] (fun a=>FB N a.1 a.2)
theorem WR (N:Nat):Spec Tryz.prog 126 (bJ N):=Ad (C:=ctx Tryz.prog [(199,MX N),(70,Df N),(75,DI N)] YX) (L:=bH) (fn:=Tryz.f126) (N:=N) (Ag ⟨P8 N,CE N,Dt N,trivial⟩)
def YW (N:Nat):Sig:=.of [.box [(false,.bool)],Sq2] [.cell false .str] (fun a=>EX N a.1 a.2)
theorem Vz (N:Nat):Spec Tryz.prog 129 (YW N):=Ad (C:=ctx Tryz.prog [(189,NT N)] []) (L:=⟨[],[]⟩) (fn:=Tryz.f129) (N:=N) (Ag ⟨PY N,trivial⟩)
def MQ (N:Nat):Sig:=.of [Al0] [.cell false .str,.cell false (.int .i64)] (fun a=>GH N a)
theorem RS (N:Nat):Spec Tryz.prog 216 (MQ N):=Ad (C:=ctx Tryz.prog [(236,UO N),(164,JS N)] []) (L:=⟨[],[]⟩) (fn:=Tryz.f216) (N:=N) (Ag ⟨VZ N,IE N,trivial⟩)
def WQ (N:Nat):Sig:=.of [.box [(false,.bool)],Sq2] [.cell false .str] (fun a=>Ef N a.1 a.2)
theorem Td (N:Nat):Spec Tryz.prog 141 (WQ N):=Ad (C:=ctx Tryz.prog [(70,Df N),(75,DI N)] []) (L:=⟨[],[]⟩) (fn:=Tryz.f141) (N:=N) (Ag ⟨CE N,Dt N,trivial⟩)
def Q4 (N:Nat):Sig:=.of [TS] [Sq4] (fun a=>Jy N a)
theorem SG (N:Nat):Spec Tryz.prog 43 (Q4 N):=Ad (C:=ctx Tryz.prog [(33,Dn N),(109,Xh N)] []) (L:=⟨[],[]⟩) (fn:=Tryz.f43) (N:=N) (Ag ⟨CW N,Yv N,trivial⟩)
def oD (N:Nat):Sig:=.of [TS] [Sq4] (fun a=>Ou N a)
theorem AaN (N:Nat):Spec Tryz.prog 42 (oD N):=Ad (C:=ctx Tryz.prog [(33,Dn N),(109,Xh N)] []) (L:=⟨[],[]⟩) (fn:=Tryz.f42) (N:=N) (Ag ⟨CW N,Yv N,trivial⟩)
end
noncomputable section
def kD (N:Nat):Sig:=.of [.cell false (.int .i64),.cell false .str] [.cell false .bool] (fun a=>JR N a.1 a.2)
theorem zH (N:Nat):Spec Tryz.prog 259 (kD N):=Ad (C:=ctx Tryz.prog [(283,zJ N),(284,zI N)] []) (L:=⟨[],[]⟩) (fn:=Tryz.f259) (N:=N) (Ag ⟨AcU N,AcS N,trivial⟩)
def VM (N:Nat):Sig:=.of [.cell false .str] [.cell false .bool] (fun a=>Kt N a)
theorem iM (N:Nat):Spec Tryz.prog 245 (VM N):=Ad (C:=ctx Tryz.prog [(246,Xc N),(272,PN N),(271,OX N)] []) (L:=⟨[],[]⟩) (fn:=Tryz.f245) (N:=N) (Ag ⟨Yp N,VB N,ND N,trivial⟩)
def Vr:List (Nat×Nrm):=[(3,⟨[],[],[],[],[]⟩),(10,⟨[0,10,11,12],[],[],[],[]⟩),(11,⟨[0,4,10,11,12],[],[],[],[]⟩),(42,⟨[0,4,10,11,12,30,31,32],[],[],[],[]⟩)]
def WE:Lk:=⟨[],[(10,⟨[(0,.i),(10,.i),(11,.i),(12,.c x64)],[]⟩,[(0,⟨[],[]⟩)]),(42,⟨[(0,.i),(4,.c (.c (.ptr 33792 0))),(10,.i),(11,.i),(12,.i),(30,.i),(31,.i),(32,.c x64)],[(33792,.box [xs,xb,xs])]⟩,[(2,⟨[(0,.i),(4,.c (.c (.ptr 33792 0))),(10,.i),(11,.i),(12,.i)],[(33792,.box [xs,xb,xs])]⟩)])]⟩
def Nc (N:Nat):Sig:=.of [.cell false (.sl 60 Tq3)] [.cell false (.int .i64)] (fun a=>Fp N a)
theorem SY (N:Nat):Spec Tryz.prog 58 (Nc N):=Ad (C:=ctx Tryz.prog [(156,KE N),(159,Qk N),(160,Xt N)] Vr) (L:=WE) (fn:=Tryz.f58) (N:=N) (Ag ⟨Jz N,SA N,YE N,trivial⟩)
def WV:List (Nat×Nrm):=[(3,⟨[0,5],[([5],9,(.str .nil),1004096)],[],[(1000000,1004096)],[]⟩),(14,⟨[0,5,9,10,11],[([5],9,(.str .nil),1000000)],[],[(37888,1000000)],[]⟩)]
def Ya:Lk:=⟨[],[(14,⟨[(0,.c (.c (.ptr 0 0))),(5,.c (xo 1000000)),(9,.i),(10,.i),(11,.c x64)],[(0,.box [xb]),(1000000,.arr 9 false (.str .nil))]⟩,[(0,⟨[(0,.c (.c (.ptr 0 0))),(5,.c (xo 1004096))],[(0,.box [xb]),(1004096,.arr 9 false (.str .nil))]⟩)])]⟩
def Yc (N:Nat):Sig:=.of [.box [(false,.bool)],Sq2] [.cell false .str] (fun a=>EE N a.1 a.2)
theorem Uo (N:Nat):Spec Tryz.prog 117 (Yc N):=Ad (C:=ctx Tryz.prog [(193,KP N),(75,DI N)] WV) (L:=Ya) (fn:=Tryz.f117) (N:=N) (Ag ⟨Ll N,Dt N,trivial⟩)
def WU:List (Nat×Nrm):=[(3,⟨[0,5],[([5],9,(.str .nil),1004096)],[],[(1000000,1004096)],[]⟩),(14,⟨[0,5,9,10,11],[([5],9,(.str .nil),1000000)],[],[(38656,1000000)],[]⟩)]
def XX:Lk:=⟨[],[(14,⟨[(0,.c (.c (.ptr 0 0))),(5,.c (xo 1000000)),(9,.i),(10,.i),(11,.c x64)],[(0,.box [xb]),(1000000,.arr 9 false (.str .nil))]⟩,[(0,⟨[(0,.c (.c (.ptr 0 0))),(5,.c (xo 1004096))],[(0,.box [xb]),(1004096,.arr 9 false (.str .nil))]⟩)])]⟩
def XZ (N:Nat):Sig:=.of [.box [(false,.bool)],Sq2] [.cell false .str] (fun a=>ED N a.1 a.2)
theorem Un (N:Nat):Spec Tryz.prog 120 (XZ N):=Ad (C:=ctx Tryz.prog [(193,KP N),(75,DI N)] WU) (L:=XX) (fn:=Tryz.f120) (N:=N) (Ag ⟨Ll N,Dt N,trivial⟩)
def WS:List (Nat×Nrm):=[(3,⟨[0,5],[([5],9,(.str .nil),1004096)],[],[(1000000,1004096)],[]⟩),(14,⟨[0,5,9,10,11],[([5],9,(.str .nil),1000000)],[],[(39936,1000000)],[]⟩)]
def XT:Lk:=⟨[],[(14,⟨[(0,.c (.c (.ptr 0 0))),(5,.c (xo 1000000)),(9,.i),(10,.i),(11,.c x64)],[(0,.box [xb]),(1000000,.arr 9 false (.str .nil))]⟩,[(0,⟨[(0,.c (.c (.ptr 0 0))),(5,.c (xo 1004096))],[(0,.box [xb]),(1004096,.arr 9 false (.str .nil))]⟩)])]⟩
def XV (N:Nat):Sig:=.of [.box [(false,.bool)],Sq2] [.cell false .str] (fun a=>EC N a.1 a.2)
theorem Um (N:Nat):Spec Tryz.prog 123 (XV N):=Ad (C:=ctx Tryz.prog [(193,KP N),(75,DI N)] WS) (L:=XT) (fn:=Tryz.f123) (N:=N) (Ag ⟨Ll N,Dt N,trivial⟩)
def sG:List (Nat×Nrm):=[(3,⟨[0,2,3],[],[],[(33637,1004096),(1000000,1004096)],[]⟩),(11,⟨[0,2,3],[],[],[(33638,1012288),(1008192,1012288)],[]⟩),(14,⟨[0,2,3,4],[],[],[(33637,1000000),(37376,1000000)],[]⟩),(30,⟨[0,2,3,5],[],[],[(33638,1008192),(40704,1008192)],[]⟩)]
def xK:Lk:=⟨[],[(14,⟨[(0,.c (.c (.ptr 0 0))),(2,.c (.c (.ptr 33280 0))),(3,.c (.c (.ptr 33536 0))),(4,.c x64)],[(0,.box [(xl (.int .i64 .nil)),x64]),(33280,.box [(xo 33281),(xo 33282)]),(33281,.Bg 80 false Tq1),(33282,.Bg 80 false Tq1),(33536,.box [(xo 1000000),(xo 33638)]),(33638,.Bg 80 false Tq1),(1000000,.arr 80 false Tq1)]⟩,[(0,⟨[(0,.c (.c (.ptr 0 0))),(2,.c (.c (.ptr 33280 0))),(3,.c (.c (.ptr 33536 0)))],[(0,.box [(xl (.int .i64 .nil)),x64]),(33280,.box [(xo 33281),(xo 33282)]),(33281,.Bg 80 false Tq1),(33282,.Bg 80 false Tq1),(33536,.box [(xo 1004096),(xo 33638)]),(33638,.Bg 80 false Tq1),(1004096,.arr 80 false Tq1)]⟩)]),(30,⟨[(0,.c (.c (.ptr 0 0))),(2,.c (.c (.ptr 33280 0))),(3,.c (.c (.ptr 33536 0))),(5,.c x64)],[(0,.box [(xl (.int .i64 .nil)),x64]),(33280,.box [(xo 33281),(xo 33282)]),(33281,.Bg 80 false Tq1),(33282,.Bg 80 false Tq1),(33536,.box [(xo 1004096),(xo 1008192)]),(1004096,.arr 80 false Tq1),(1008192,.arr 80 false Tq1)]⟩,[(2,⟨[(0,.c (.c (.ptr 0 0))),(2,.c (.c (.ptr 33280 0))),(3,.c (.c (.ptr 33536 0)))],[(0,.box [(xl (.int .i64 .nil)),x64]),(33280,.box [(xo 33281),(xo 33282)]),(33281,.Bg 80 false Tq1),(33282,.Bg 80 false Tq1),(33536,.box [(xo 1004096),(xo 1012288)]),(1004096,.arr 80 false Tq1),(1012288,.arr 80 false Tq1)]⟩)])]⟩
def VS (N:Nat):Sig:=.of [TS] [Sq7] (fun a=>NH N a)
theorem jB (N:Nat):Spec Tryz.prog 98 (VS N):=Ad (C:=ctx Tryz.prog [(33,Dn N),(42,oD N)] sG) (L:=xK) (fn:=Tryz.f98) (N:=N) (Ag ⟨CW N,AaN N,trivial⟩)
def AaR:List (Nat×Nrm):=[(3,⟨[3],[([3],111,Tq2,1008192)],[],[(1000000,1008192)],[]⟩),(14,⟨[0,3,4],[([3],111,Tq2,1000000)],[],[(41216,1000000)],[]⟩),(33,⟨[0,3,4,5],[([3],111,Tq2,1004096)],[(some 34048,3,(.sl 177 Tq0 .nil))],[(1000000,1004096)],[]⟩)]
def Ac7:Lk:=⟨[(33,⟨[(0,.c (.c (.ptr 0 0))),(3,.c (xo 1004096)),(4,.i),(5,.c (.c (.ptr 34048 0)))],[(0,.box [(xl (.int .i64 .nil)),x64]),(34048,.box [(xo 36608),x64,xb,(xl (.sl 177 Tq0 .nil))]),(36608,.arr 80 false Tq1),(1004096,.arr 111 false Tq2)]⟩)],[(14,⟨[(0,.c (.c (.ptr 0 0))),(3,.c (xo 1000000)),(4,.c x64)],[(0,.box [(xl (.int .i64 .nil)),x64]),(1000000,.arr 111 false Tq2)]⟩,[(0,⟨[(3,.c (xo 1008192))],[(0,.box [(xl (.int .i64 .nil)),x64]),(1008192,.arr 111 false Tq2)]⟩)])]⟩
def aG (N:Nat):Sig:=.of [TS] [.cell true (.sl 111 Tq2)] (fun a=>Np N a)
theorem sK (N:Nat):Spec Tryz.prog 99 (aG N):=Ad (C:=ctx Tryz.prog [(33,Dn N),(43,Q4 N),(180,UE N)] AaR) (L:=Ac7) (fn:=Tryz.f99) (N:=N) (Ag ⟨CW N,SG N,dH N,trivial⟩)
end
