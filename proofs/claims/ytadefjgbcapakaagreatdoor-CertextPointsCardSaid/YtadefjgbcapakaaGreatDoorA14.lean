import Derived.Test.YtadefjgbcapakaaGreatDoorA12
import Derived.Test.YtadefjgbcapakaaGreatDoorA13
set_option linter.all false
namespace Go.Proofs.YtadefjgbcapakaaGreatDoor.Vm
noncomputable section
open Go.Proofs
def kE:List (Nat×Nrm):=[(3,⟨[0,3],[],[],[],[]⟩),(11,⟨[5],[([5],5,(.int .u8 .nil),1012288)],[],[(1008192,1012288)],[]⟩),(14,⟨[0,3,4],[],[],[],[]⟩),(34,⟨[0,3,5,18,19],[([5],5,(.int .u8 .nil),1008192)],[],[(41216,1008192)],[]⟩)]
def oN:Lk:=⟨[],[(14,⟨[(0,.i),(3,.c x64),(4,.c x64)],[]⟩,[(0,⟨[(0,.i),(3,.c x64)],[]⟩)]),(34,⟨[(0,.i),(3,.i),(5,.c (xo 1008192)),(18,.i),(19,.c x64)],[(1008192,.arr 5 false (.int .u8 .nil))]⟩,[(2,⟨[(5,.c (xo 1012288))],[(1012288,.arr 5 false (.int .u8 .nil))]⟩)])]⟩
def MF (N:Nat):Sig:=.of [.cell false (.int .i64)] [.cell false .str] (fun a=>P6 N a)
theorem P7 (N:Nat):Spec Tryz.prog 199 (MF N):=Ad (C:=ctx Tryz.prog [] kE) (L:=oN) (fn:=Tryz.f199) (N:=N) (Af trivial)
def Tv (N:Nat):Sig:=.of [.cell false .bool] [.cell false .str] (fun a=>WG N a)
theorem ZL (N:Nat):Spec Tryz.prog 233 (Tv N):=Ad (C:=ctx Tryz.prog [] []) (L:=⟨[],[]⟩) (fn:=Tryz.f233) (N:=N) (Af trivial)
def uI:List (Nat×Nrm):=[(3,⟨[0,4],[],[],[],[]⟩),(11,⟨[5],[],[],[],[]⟩),(18,⟨[0,4],[],[],[],[]⟩),(38,⟨[0,5,34,35],[],[],[],[]⟩)]
def yQ:Lk:=⟨[],[(18,⟨[(0,.i),(4,.c x64)],[]⟩,[(0,⟨[(0,.i),(4,.c x64)],[]⟩)]),(38,⟨[(0,.i),(5,.c (xo 38912)),(34,.i),(35,.c x64)],[(38912,.arr 5 false (.int .u8 .nil))]⟩,[(2,⟨[(5,.c (xo 38912))],[(38912,.arr 5 false (.int .u8 .nil))]⟩)])]⟩
def P5 (N:Nat):Sig:=.of [.cell false (.int .i64)] [.cell false .str,.cell false (.int .i64)] (fun a=>GI N a)
theorem RN (N:Nat):Spec Tryz.prog 73 (P5 N):=Ad (C:=ctx Tryz.prog [] uI) (L:=yQ) (fn:=Tryz.f73) (N:=N) (Af trivial)
def AhF:List (Nat×Nrm):=[(3,⟨[0,1,5],[],[],[],[]⟩),(10,⟨[0,1,5],[],[],[],[]⟩),(11,⟨[0,1],[],[],[(0,1012288),(1008192,1012288)],[]⟩),(22,⟨[0,1,6],[],[],[(0,1008192),(40704,1008192)],[]⟩)]
def Ajr:Lk:=⟨[],[(10,⟨[(0,.c (xo 0)),(1,.i),(5,.c x64)],[(0,.arr 5 true (.int .u8 .nil))]⟩,[(0,⟨[(0,.c (xo 0)),(1,.i),(5,.c x64)],[(0,.arr 5 true (.int .u8 .nil))]⟩)]),(22,⟨[(0,.c (xo 1008192)),(1,.i),(6,.c x64)],[(1008192,.arr 5 true (.int .u8 .nil))]⟩,[(2,⟨[(0,.c (xo 1012288)),(1,.i)],[(1012288,.arr 5 true (.int .u8 .nil))]⟩)])]⟩
def AbI (N:Nat):Sig:=.of [Am6,.cell false (.int .i64)] [Am6] (fun a=>Yw N a.1 a.2)
theorem AeC (N:Nat):Spec Tryz.prog 267 (AbI N):=Ad (C:=ctx Tryz.prog [] AhF) (L:=Ajr) (fn:=Tryz.f267) (N:=N) (Af trivial)
def Sv (N:Nat):Sig:=.of [.cell false (.int .i64)] [.cell false (.int .i64)] (fun a=>MN N a)
theorem UN (N:Nat):Spec Tryz.prog 165 (Sv N):=Ad (C:=ctx Tryz.prog [] []) (L:=⟨[],[]⟩) (fn:=Tryz.f165) (N:=N) (Af trivial)
def XA (N:Nat):Sig:=.of [] [Sq2] (fun _=>U0 N)
theorem nZ (N:Nat):Spec Tryz.prog 19 (XA N):=Ad (C:=ctx Tryz.prog [] []) (L:=⟨[],[]⟩) (fn:=Tryz.f19) (N:=N) (Af trivial)
def l9 (N:Nat):Sig:=.of [] [Am7] (fun _=>aB N)
theorem zC (N:Nat):Spec Tryz.prog 20 (l9 N):=Ad (C:=ctx Tryz.prog [] []) (L:=⟨[],[]⟩) (fn:=Tryz.f20) (N:=N) (Af trivial)
def BH (N:Nat):Sig:=.of [Ny,.cell false (.int .i64)] [.cell false (.int .i64)] (fun a=>Ak N a.1 a.2)
theorem BB (N:Nat):Spec Tryz.prog 33 (BH N):=Ad (C:=ctx Tryz.prog [] []) (L:=⟨[],[]⟩) (fn:=Tryz.f33) (N:=N) (Af trivial)
end
noncomputable section
def Np (N:Nat):Sig:=.of [.cell false (.int .i64)] [.cell false .str] (fun a=>ES N a)
theorem NL (N:Nat):Spec Tryz.prog 41 (Np N):=Ad (C:=ctx Tryz.prog [] []) (L:=⟨[],[]⟩) (fn:=Tryz.f41) (N:=N) (Af trivial)
def Vk (N n:Nat):Sig:=.of [.cell false (.int .i64)] [.cell false .str] (fun a=>FT N n a)
theorem WJ (N:Nat): ∀ n,Spec Tryz.prog 227 (Vk N n)
  | 0=>lQ (C:=ctx Tryz.prog [] []) (fn:=Tryz.f227) (Af (gs:=[]) trivial) (by kernel_rfl) (by kernel_rfl)
  | n+1=>Ad (C:=ctx Tryz.prog ((227,Vk N n)::[]) []) (L:=⟨[],[]⟩) (fn:=Tryz.f227) (N:=N) (Af ⟨WJ N n,trivial⟩)
def Xw (N:Nat):Sig:=Vk N N
theorem Y0 (N:Nat):Spec Tryz.prog 227 (Xw N):=WJ N N
def y8 (N:Nat):Sig:=.of [Ag3] [Ny] (fun a=>tH N a)
theorem Acu (N:Nat):Spec Tryz.prog 12 (y8 N):=Ad (C:=ctx Tryz.prog [] []) (L:=⟨[],[]⟩) (fn:=Tryz.f12) (N:=N) (Af trivial)
def AcG:List (Nat×Nrm):=[(3,⟨[4],[([4],3,(.int .i64 .nil),1012288)],[],[(1000000,1012288)],[]⟩),(11,⟨[0,4,6,8],[([4],3,(.int .i64 .nil),1008192)],[],[(1004096,1008192)],[]⟩),(18,⟨[0,4,5,6],[([4],3,(.int .i64 .nil),1000000)],[],[(53760,1000000)],[]⟩),(58,⟨[0,4,6,7,8,9],[([4],3,(.int .i64 .nil),1004096)],[],[(1000000,1004096)],[]⟩)]
def AeU:Lk:=⟨[],[(18,⟨[(0,.i),(4,.c (xo 1000000)),(5,.c x64),(6,.c x64)],[(1000000,.arr 3 false (.int .i64 .nil))]⟩,[(0,⟨[(4,.c (xo 1012288))],[(1012288,.arr 3 false (.int .i64 .nil))]⟩)]),(58,⟨[(0,.i),(4,.c (xo 1004096)),(6,.i),(7,.i),(8,.c x64),(9,.c x64)],[(1004096,.arr 3 false (.int .i64 .nil))]⟩,[(2,⟨[(0,.i),(4,.c (xo 1008192)),(6,.i),(8,.c x64)],[(1008192,.arr 3 false (.int .i64 .nil))]⟩)])]⟩
def Vr (N:Nat):Sig:=.of [.cell false .str] [Ag3,.cell false .bool] (fun a=>L9 N a)
theorem WN (N:Nat):Spec Tryz.prog 162 (Vr N):=Ad (C:=ctx Tryz.prog [] AcG [] [] [] [43,47,48,52,56,57,58,62,88,93,94,99,104,105]) (L:=AeU) (fn:=Tryz.f162) (N:=N) (Af trivial)
def AcI:List (Nat×Nrm):=[(3,⟨[],[],[],[],[]⟩),(10,⟨[0,3],[],[],[],[]⟩),(15,⟨[0,3,5,6,7],[],[],[],[]⟩),(65,⟨[0,3,4,5,6],[],[],[],[]⟩),(82,⟨[0,3,5,6,7,8],[],[],[],[]⟩)]
def AeV:Lk:=⟨[(65,⟨[(0,.i),(3,.c x64),(4,.i),(5,.c x64),(6,.c x64)],[]⟩)],[(10,⟨[(0,.i),(3,.c x64)],[]⟩,[(0,⟨[],[]⟩)]),(82,⟨[(0,.i),(3,.i),(5,.i),(6,.i),(7,.c x64),(8,.c x64)],[]⟩,[(3,⟨[(0,.i),(3,.i),(5,.i),(6,.i),(7,.c x64)],[]⟩)])]⟩
def kQ (N:Nat):Sig:=.of [.cell false .str] [.cell false .bool] (fun a=>PI N a)
theorem yZ (N:Nat):Spec Tryz.prog 260 (kQ N):=Ad (C:=ctx Tryz.prog [] AcI [] [] [] [87,90,91,94,97,98]) (L:=AeV) (fn:=Tryz.f260) (N:=N) (Af trivial)
def Nu (N:Nat):Sig:=.of [.cell false (.int .u8)] [.cell false .bool] (fun a=>FQ N a)
theorem NU (N:Nat):Spec Tryz.prog 261 (Nu N):=Ad (C:=ctx Tryz.prog [] [] [] [] [] [5,8,9,12,15,16,17,20,23,24]) (L:=⟨[],[]⟩) (fn:=Tryz.f261) (N:=N) (Af trivial)
def AaR:List (Nat×Nrm):=[(3,⟨[],[],[],[],[]⟩),(10,⟨[0,1,5],[],[],[],[]⟩)]
def Ac8:Lk:=⟨[],[(10,⟨[(0,.i),(1,.i),(5,.c x64)],[]⟩,[(0,⟨[],[]⟩)])]⟩
def SK (N:Nat):Sig:=.of [.cell false (.int .u8),.cell false .str] [.cell false .bool] (fun a=>H6 N a.1 a.2)
theorem Vj (N:Nat):Spec Tryz.prog 262 (SK N):=Ad (C:=ctx Tryz.prog [] AaR) (L:=Ac8) (fn:=Tryz.f262) (N:=N) (Af trivial)
def Aba:List (Nat×Nrm):=[(3,⟨[5],[([5],9,(.str .nil),1004096)],[],[(1000000,1004096)],[]⟩),(18,⟨[0,1,5,6,7],[([5],9,(.str .nil),1000000)],[],[(40704,1000000)],[]⟩)]
def AcL:Lk:=⟨[],[(18,⟨[(0,.i),(1,.i),(5,.c (xo 1000000)),(6,.c x64),(7,.c x64)],[(1000000,.arr 9 false (.str .nil))]⟩,[(0,⟨[(5,.c (xo 1004096))],[(1004096,.arr 9 false (.str .nil))]⟩)])]⟩
def SQ (N:Nat):Sig:=.of [.cell false .str,.cell false (.int .u8)] [Sq1] (fun a=>FU N a.1 a.2)
theorem Vy (N:Nat):Spec Tryz.prog 254 (SQ N):=Ad (C:=ctx Tryz.prog [] Aba) (L:=AcL) (fn:=Tryz.f254) (N:=N) (Af trivial)
end
noncomputable section
def oU:List (Nat×Nrm):=[(3,⟨[0,4],[],[],[],[]⟩),(11,⟨[6],[],[],[],[]⟩),(22,⟨[0,4,5],[],[],[],[]⟩),(50,⟨[0,4,6,7],[],[],[],[]⟩)]
def uP:Lk:=⟨[],[(22,⟨[(0,.i),(4,.c x64),(5,.c x64)],[]⟩,[(0,⟨[(0,.i),(4,.c x64)],[]⟩)]),(50,⟨[(0,.i),(4,.i),(6,.c (xo 40192)),(7,.c x64)],[(40192,.arr 5 false (.int .u8 .nil))]⟩,[(2,⟨[(6,.c (xo 40192))],[(40192,.arr 5 false (.int .u8 .nil))]⟩)])]⟩
def Vo (N:Nat):Sig:=.of [.cell false (.int .i64)] [.cell false .str,.cell false (.int .i64)] (fun a=>L6 N a)
theorem eG (N:Nat):Spec Tryz.prog 152 (Vo N):=Ad (C:=ctx Tryz.prog [] oU) (L:=uP) (fn:=Tryz.f152) (N:=N) (Af trivial)
def AaV:List (Nat×Nrm):=[(3,⟨[3],[([3],9,(.str .nil),1012288)],[],[(1000000,1012288)],[]⟩),(11,⟨[3,5,6,10,11,12],[([3],9,(.str .nil),1008192)],[],[(1004096,1008192)],[1008192]⟩),(14,⟨[3,10,11,12],[([3],9,(.str .nil),1000000)],[],[(43008,1000000)],[]⟩),(19,⟨[7],[],[],[],[]⟩),(26,⟨[3,5,6,10,11,12],[([3],9,(.str .nil),1004096)],[],[(1000000,1004096)],[]⟩),(50,⟨[7,42,43,44],[],[],[],[]⟩)]
def AcC:Lk:=⟨[],[(14,⟨[(3,.c (xo 1000000)),(10,.i),(11,.i),(12,.c x64)],[(1000000,.arr 9 false (.str .nil))]⟩,[(0,⟨[(3,.c (xo 1012288))],[(1012288,.arr 9 false (.str .nil))]⟩)]),(26,⟨[(3,.c (xo 1004096)),(5,.i),(6,.c x64),(10,.i),(11,.i),(12,.i)],[(1004096,.arr 9 false (.str .nil))]⟩,[(2,⟨[(3,.c (xo 1008192)),(5,.i),(6,.c x64),(10,.i),(11,.i),(12,.i)],[(1008192,.arr 9 true (.str .nil))]⟩)]),(50,⟨[(7,.c xs),(42,.c (xo 1012288)),(43,.i),(44,.c x64)],[(1012288,.arr 9 false (.str .nil))]⟩,[(4,⟨[(7,.c xs)],[]⟩)])]⟩
def bP (N:Nat):Sig:=.of [Sq1] [.cell false .str] (fun a=>Rh N a)
theorem uO (N:Nat):Spec Tryz.prog 240 (bP N):=Ad (C:=ctx Tryz.prog [] AaV) (L:=AcC) (fn:=Tryz.f240) (N:=N) (Af trivial)
def pG:List (Nat×Nrm):=[(3,⟨[],[],[],[],[]⟩),(11,⟨[2,3,20,21],[],[],[],[]⟩),(18,⟨[2,3,20,21],[],[],[],[]⟩),(19,⟨[2,3,5,8,20,21,41,42,43],[],[],[],[]⟩),(38,⟨[2,3,5,20,21,41,42,43],[],[],[],[]⟩),(54,⟨[2,3,5,7,8,20,21,41,42,43,51,52,53],[],[],[],[]⟩)]
def uU:Lk:=⟨[],[(18,⟨[(2,.c (.c (.ptr 33280 0))),(3,.c (.c (.ptr 33536 0))),(20,.i),(21,.c x64)],[(33280,.box [(xl (.sl 177 Tq0 .nil))]),(33536,.box [(xl (.sl 177 Tq0 .nil))])]⟩,[(0,⟨[],[]⟩)]),(38,⟨[(2,.c (.c (.ptr 33280 0))),(3,.c (.c (.ptr 33536 0))),(5,.i),(20,.i),(21,.i),(41,.i),(42,.i),(43,.c x64)],[(33280,.box [(xl (.sl 177 Tq0 .nil))]),(33536,.box [(xl (.sl 177 Tq0 .nil))])]⟩,[(2,⟨[(2,.c (.c (.ptr 33280 0))),(3,.c (.c (.ptr 33536 0))),(20,.i),(21,.i)],[(33280,.box [(xl (.sl 177 Tq0 .nil))]),(33536,.box [(xl (.sl 177 Tq0 .nil))])]⟩)]),(54,⟨[(2,.c (.c (.ptr 33280 0))),(3,.c (.c (.ptr 33536 0))),(5,.i),(7,.c (.c (.ptr 34560 0))),(8,.c xb),(20,.i),(21,.i),(41,.i),(42,.i),(43,.i),(51,.i),(52,.i),(53,.c x64)],[(33280,.box [(xl (.sl 177 Tq0 .nil))]),(33536,.box [(xl (.sl 177 Tq0 .nil))]),(34560,.box [xs,x64,xs])]⟩,[(4,⟨[(2,.c (.c (.ptr 33280 0))),(3,.c (.c (.ptr 33536 0))),(5,.i),(8,.c xb),(20,.i),(21,.i),(41,.i),(42,.i),(43,.i)],[(33280,.box [(xl (.sl 177 Tq0 .nil))]),(33536,.box [(xl (.sl 177 Tq0 .nil))])]⟩)])]⟩
def NW (N:Nat):Sig:=.of [Sq0,Sq0] [.cell false .bool] (fun a=>EL N a.1 a.2)
theorem Qk (N:Nat):Spec Tryz.prog 108 (NW N):=Ad (C:=ctx Tryz.prog [] pG) (L:=uU) (fn:=Tryz.f108) (N:=N) (Af trivial)
def kY:List (Nat×Nrm):=[(3,⟨[],[],[],[],[]⟩),(11,⟨[2,3,16,17],[],[],[],[]⟩),(18,⟨[2,3,16,17],[],[],[],[]⟩),(38,⟨[2,3,5,16,17,38,39],[],[],[],[]⟩)]
def oZ:Lk:=⟨[],[(18,⟨[(2,.c (.c (.ptr 33280 0))),(3,.c (.c (.ptr 33536 0))),(16,.i),(17,.c x64)],[(33280,.box [(xl (.sl 177 Tq0 .nil))]),(33536,.box [(xl (.sl 177 Tq0 .nil))])]⟩,[(0,⟨[],[]⟩)]),(38,⟨[(2,.c (.c (.ptr 33280 0))),(3,.c (.c (.ptr 33536 0))),(5,.i),(16,.i),(17,.i),(38,.i),(39,.c x64)],[(33280,.box [(xl (.sl 177 Tq0 .nil))]),(33536,.box [(xl (.sl 177 Tq0 .nil))])]⟩,[(2,⟨[(2,.c (.c (.ptr 33280 0))),(3,.c (.c (.ptr 33536 0))),(16,.i),(17,.i)],[(33280,.box [(xl (.sl 177 Tq0 .nil))]),(33536,.box [(xl (.sl 177 Tq0 .nil))])]⟩)])]⟩
def MG (N:Nat):Sig:=.of [Sq0,Sq0] [.cell false .bool] (fun a=>Eu N a.1 a.2)
theorem PL (N:Nat):Spec Tryz.prog 95 (MG N):=Ad (C:=ctx Tryz.prog [] kY) (L:=oZ) (fn:=Tryz.f95) (N:=N) (Af trivial)
end
noncomputable section
def Tm (N:Nat):Sig:=.of [WX] [.cell false (.int .i64)] (fun a=>JG N a)
theorem Zk (N:Nat):Spec Tryz.prog 85 (Tm N):=Ad (C:=ctx Tryz.prog [] []) (L:=⟨[],[]⟩) (fn:=Tryz.f85) (N:=N) (Af trivial)
def UH (N:Nat):Sig:=.of [WX] [Sq9,.cell false (.int .i64)] (fun a=>Q5 N a)
theorem dR (N:Nat):Spec Tryz.prog 221 (UH N):=Ad (C:=ctx Tryz.prog [] []) (L:=⟨[],[]⟩) (fn:=Tryz.f221) (N:=N) (Af trivial)
def UI (N:Nat):Sig:=.of [WX,.cell false (.int .i64)] [Sq9,.cell false .bool] (fun a=>D8 N a.1 a.2)
theorem dS (N:Nat):Spec Tryz.prog 173 (UI N):=Ad (C:=ctx Tryz.prog [] []) (L:=⟨[],[]⟩) (fn:=Tryz.f173) (N:=N) (Af trivial)
def vH:List (Nat×Nrm):=[(3,⟨[],[],[],[],[]⟩),(10,⟨[0,3],[],[],[],[]⟩)]
def zT:Lk:=⟨[],[(10,⟨[(0,.i),(3,.c x64)],[]⟩,[(0,⟨[],[]⟩)])]⟩
def WT (N:Nat):Sig:=.of [.cell false (.sl 123 Tq6)] [.cell false .bool] (fun a=>Js N a)
theorem lW (N:Nat):Spec Tryz.prog 308 (WT N):=Ad (C:=ctx Tryz.prog [] vH) (L:=zT) (fn:=Tryz.f308) (N:=N) (Af trivial)
def AaK:List (Nat×Nrm):=[(3,⟨[3],[([3],3,(.int .i64 .nil),1016384)],[],[(1000000,1016384)],[]⟩),(7,⟨[0,3,4],[],[],[],[]⟩),(11,⟨[],[],[],[],[]⟩),(14,⟨[0,3,4],[([3],3,(.int .i64 .nil),1000000)],[],[(42240,1000000)],[]⟩),(30,⟨[0,3,4,5],[([3],3,(.int .i64 .nil),1004096)],[],[(1000000,1004096)],[]⟩)]
def Ac2:Lk:=⟨[],[(14,⟨[(0,.i),(3,.c (xo 1000000)),(4,.c x64)],[(1000000,.arr 3 false (.int .i64 .nil))]⟩,[(0,⟨[(3,.c (xo 1016384))],[(1016384,.arr 3 false (.int .i64 .nil))]⟩)]),(30,⟨[(0,.i),(3,.c (xo 1004096)),(4,.c x64),(5,.c x64)],[(1004096,.arr 3 false (.int .i64 .nil))]⟩,[(1,⟨[(0,.i),(3,.c (xo 42240)),(4,.c x64)],[(42240,.arr 3 false (.int .i64 .nil))]⟩),(2,⟨[],[]⟩)])]⟩
def bK (N:Nat):Sig:=.of [.cell false .str] [Ag3] (fun a=>QX N a)
theorem uF (N:Nat):Spec Tryz.prog 268 (bK N):=Ad (C:=ctx Tryz.prog [] AaK) (L:=Ac2) (fn:=Tryz.f268) (N:=N) (Af trivial)
def kF (N:Nat):Sig:=.of [.cell false .str,.cell false (.int .i64)] [.cell false .bool] (fun a=>P8 N a.1 a.2)
theorem yS (N:Nat):Spec Tryz.prog 264 (kF N):=Ad (C:=ctx Tryz.prog [] []) (L:=⟨[],[]⟩) (fn:=Tryz.f264) (N:=N) (Af trivial)
end
noncomputable section
def AaZ:List (Nat×Nrm):=[(3,⟨[],[],[],[],[]⟩),(26,⟨[0,3,4,5],[],[],[],[]⟩)]
def AcK:Lk:=⟨[],[(26,⟨[(0,.i),(3,.i),(4,.c xb),(5,.c x64)],[]⟩,[(0,⟨[],[]⟩)])]⟩
def bU (N:Nat):Sig:=.of [.cell false .str] [.cell false .bool] (fun a=>MX N a)
theorem uT (N:Nat):Spec Tryz.prog 213 (bU N):=Ad (C:=ctx Tryz.prog [] AaZ [] [] [] [37,39,40,43,54,55]) (L:=AcK) (fn:=Tryz.f213) (N:=N) (Af trivial)
def WO (N:Nat):Sig:=.of [.cell false .str] [.cell false .bool] (fun a=>Jm N a)
theorem kR (N:Nat):Spec Tryz.prog 214 (WO N):=Ad (C:=ctx Tryz.prog [] []) (L:=⟨[],[]⟩) (fn:=Tryz.f214) (N:=N) (Af trivial)
def AcD:List (Nat×Nrm):=[(3,⟨[0,2,5,6,8],[],[],[],[]⟩),(70,⟨[0,2,5,6,8,9],[],[],[],[]⟩),(97,⟨[0,2,5,6,7],[],[],[],[]⟩)]
def AeS:Lk:=⟨[(97,⟨[(0,.i),(2,.c (.c (.ptr 33280 0))),(5,.c (.c (.ptr 34048 0))),(6,.c x64),(7,.c x64)],[(33280,.box [(.c (.int .i64 0)),(.c (.str ([]:Bs))),(.c (.str ([]:Bs)))]),(34048,.box [(.c (.int .i64 0)),(.c (.str ([]:Bs))),(.c (.str ([]:Bs)))])]⟩)],[(70,⟨[(0,.i),(2,.c (.c (.ptr 33280 0))),(5,.c (.c (.ptr 34048 0))),(6,.c x64),(8,.i),(9,.c x64)],[(33280,.box [(.c (.int .i64 0)),(.c (.str ([]:Bs))),(.c (.str ([]:Bs)))]),(34048,.box [(.c (.int .i64 0)),(.c (.str ([]:Bs))),(.c (.str ([]:Bs)))])]⟩,[(0,⟨[(0,.i),(2,.c (.c (.ptr 33280 0))),(5,.c (.c (.ptr 34048 0))),(6,.c x64),(8,.i)],[(33280,.box [(.c (.int .i64 0)),(.c (.str ([]:Bs))),(.c (.str ([]:Bs)))]),(34048,.box [(.c (.int .i64 0)),(.c (.str ([]:Bs))),(.c (.str ([]:Bs)))])]⟩)])]⟩
def Vp (N:Nat):Sig:=.of [.cell false .str] [Sq9,.cell false .str,.cell false (.int .i64)] (fun a=>L8 N a)
theorem WL (N:Nat):Spec Tryz.prog 169 (Vp N):=Ad (C:=ctx Tryz.prog [] AcD) (L:=AeS) (fn:=Tryz.f169) (N:=N) (Af trivial)
def AcE:List (Nat×Nrm):=[(3,⟨[0,6],[],[],[],[]⟩),(22,⟨[0,6,22,23,24],[],[],[],[]⟩),(77,⟨[6,10],[],[],[(43008,1008192),(46592,1008192),(49408,1008192),(51456,1008192)],[]⟩)]
def AeT:Lk:=⟨[(77,⟨[(6,.i),(10,.c (xo 1008192))],[(1008192,.arr 5 false (.int .u8 .nil))]⟩)],[(22,⟨[(0,.i),(6,.c xs),(22,.i),(23,.i),(24,.c x64)],[]⟩,[(0,⟨[(0,.i),(6,.c xs)],[]⟩)])]⟩
def Vq (N:Nat):Sig:=.of [.cell false (.int .i64),Sq1] [.cell false .str,.cell false (.int .i64)] (fun a=>PG N a.1 a.2)
theorem WM (N:Nat):Spec Tryz.prog 151 (Vq N):=Ad (C:=ctx Tryz.prog [] AcE) (L:=AeT) (fn:=Tryz.f151) (N:=N) (Af trivial)
end
noncomputable section
def yR (N:Nat):Sig:=.of [.cell false .str,.cell false (.int .i64)] [.cell false .bool] (fun a=>QI N a.1 a.2)
theorem Ac6 (N:Nat):Spec Tryz.prog 224 (yR N):=Ad (C:=ctx Tryz.prog [] []) (L:=⟨[],[]⟩) (fn:=Tryz.f224) (N:=N) (Af trivial)
def Tj (N:Nat):Sig:=.of [WX] [.cell false (.int .i64)] (fun a=>JF N a)
theorem Zj (N:Nat):Spec Tryz.prog 176 (Tj N):=Ad (C:=ctx Tryz.prog [] []) (L:=⟨[],[]⟩) (fn:=Tryz.f176) (N:=N) (Af trivial)
def GX (N:Nat):Sig:=.of [Ad5,.cell false (.int .i64)] [Sq9,.cell false .bool] (fun a=>D6 N a.1 a.2)
theorem Iq (N:Nat):Spec Tryz.prog 92 (GX N):=Ad (C:=ctx Tryz.prog [] []) (L:=⟨[],[]⟩) (fn:=Tryz.f92) (N:=N) (Af trivial)
def kG:List (Nat×Nrm):=[(3,⟨[],[],[],[],[]⟩),(10,⟨[0,3],[],[],[],[]⟩)]
def oO:Lk:=⟨[],[(10,⟨[(0,.i),(3,.c x64)],[]⟩,[(0,⟨[],[]⟩)])]⟩
def Tz (N:Nat):Sig:=.of [.cell false (.sl 123 Tq6)] [.cell false .bool] (fun a=>JJ N a)
theorem ZQ (N:Nat):Spec Tryz.prog 290 (Tz N):=Ad (C:=ctx Tryz.prog [] kG) (L:=oO) (fn:=Tryz.f290) (N:=N) (Af trivial)
def KI (N:Nat):Sig:=.of [Ad5] [.cell false (.int .i64)] (fun a=>BR N a)
theorem O6 (N:Nat):Spec Tryz.prog 94 (KI N):=Ad (C:=ctx Tryz.prog [] []) (L:=⟨[],[]⟩) (fn:=Tryz.f94) (N:=N) (Af trivial)
def Qj (N:Nat):Sig:=.of [Ad5,.cell false (.int .i64)] [Sq9,.cell false (.int .i64)] (fun a=>DK N a.1 a.2)
theorem Xz (N:Nat):Spec Tryz.prog 230 (Qj N):=Ad (C:=ctx Tryz.prog [] []) (L:=⟨[],[]⟩) (fn:=Tryz.f230) (N:=N) (Af trivial)
def kH (N:Nat):Sig:=.of [.cell false .str] [.cell false .str,.cell false (.int .i64),.cell false (.int .i64)] (fun a=>Ud N a)
theorem yY (N:Nat):Spec Tryz.prog 266 (kH N):=Ad (C:=ctx Tryz.prog [] [] [] [] [] [8,12,13,17,21,33,34,35]) (L:=⟨[],[]⟩) (fn:=Tryz.f266) (N:=N) (Af trivial)
end
noncomputable section
def Xy:List (Nat×Nrm):=[(3,⟨[],[],[],[],[]⟩),(18,⟨[0,1,12,13],[],[],[],[]⟩)]
def Y6:Lk:=⟨[],[(18,⟨[(0,.i),(1,.i),(12,.i),(13,.c x64)],[]⟩,[(0,⟨[],[]⟩)])]⟩
def O5 (N:Nat):Sig:=.of [.cell false (.sl 80 Tq1),.cell false (.sl 80 Tq1)] [.cell false .bool] (fun a=>Gw N a.1 a.2)
theorem Vu (N:Nat):Spec Tryz.prog 68 (O5 N):=Ad (C:=ctx Tryz.prog [(95,MG N)] Xy) (L:=Y6) (fn:=Tryz.f68) (N:=N) (Af ⟨PL N,trivial⟩)
def SC (N:Nat):Sig:=.of [Ny,.cell false .str] [.cell false .str] (fun a=>MQ N a.1 a.2)
theorem UY (N:Nat):Spec Tryz.prog 26 (SC N):=Ad (C:=ctx Tryz.prog [(33,BH N)] []) (L:=⟨[],[]⟩) (fn:=Tryz.f26) (N:=N) (Af ⟨BB N,trivial⟩)
def AcB:List (Nat×Nrm):=[(3,⟨[4],[([4],123,Tq6,1004096)],[],[(1000000,1004096)],[]⟩),(10,⟨[0,4],[([4],123,Tq6,1000000)],[],[(38656,1000000)],[]⟩)]
def AeR:Lk:=⟨[],[(10,⟨[(0,.c xs),(4,.c (xo 1000000))],[(1000000,.arr 123 false Tq6)]⟩,[(0,⟨[(4,.c (xo 1004096))],[(1004096,.arr 123 false Tq6)]⟩)])]⟩
def PD (N:Nat):Sig:=.of [.cell false .str] [.cell false (.sl 123 Tq6),.cell false (.int .i64)] (fun a=>Lu N a)
theorem PE (N:Nat):Spec Tryz.prog 83 (PD N):=Ad (C:=ctx Tryz.prog [(169,Vp N)] AcB) (L:=AeR) (fn:=Tryz.f83) (N:=N) (Af ⟨WL N,trivial⟩)
def Tn (N:Nat):Sig:=.of [WX,.cell false (.int .i64)] [Sq9,.cell false (.int .i64)] (fun a=>OQ N a.1 a.2)
theorem Zl (N:Nat):Spec Tryz.prog 172 (Tn N):=Ad (C:=ctx Tryz.prog [(221,UH N)] []) (L:=⟨[],[]⟩) (fn:=Tryz.f172) (N:=N) (Af ⟨dR N,trivial⟩)
def Acz:List (Nat×Nrm):=[(3,⟨[7],[([7],9,(.str .nil),1004096)],[],[(1000000,1004096)],[]⟩),(34,⟨[7,36,37,38],[([7],9,(.str .nil),1000000)],[],[(45056,1000000)],[]⟩)]
def Ae9:Lk:=⟨[],[(34,⟨[(7,.c (xo 1000000)),(36,.c (xo 41728)),(37,.i),(38,.c x64)],[(41728,.arr 3 false (.int .i64 .nil)),(1000000,.arr 9 false (.str .nil))]⟩,[(0,⟨[(7,.c (xo 1004096))],[(1004096,.arr 9 false (.str .nil))]⟩)])]⟩
def jY (N:Nat):Sig:=.of [.cell false .str] [.cell false .str,.cell false (.int .i64)] (fun a=>Ub N a)
theorem yH (N:Nat):Spec Tryz.prog 237 (jY N):=Ad (C:=ctx Tryz.prog [(268,bK N),(269,YF N),(215,QL N)] Acz) (L:=Ae9) (fn:=Tryz.f237) (N:=N) (Af ⟨uF N,pI N,TJ N,trivial⟩)
def qL (N:Nat):Sig:=.of [.cell false .str] [.cell false .str,.cell false (.int .i64),.cell false (.int .i64)] (fun a=>WE N a)
theorem AaP (N:Nat):Spec Tryz.prog 223 (qL N):=Ad (C:=ctx Tryz.prog [(264,kF N)] []) (L:=⟨[],[]⟩) (fn:=Tryz.f223) (N:=N) (Af ⟨yS N,trivial⟩)
def AaT:List (Nat×Nrm):=[(3,⟨[8],[],[],[],[]⟩),(46,⟨[4,7,8,9],[],[],[],[]⟩)]
def AcA:Lk:=⟨[],[(46,⟨[(4,.i),(7,.i),(8,.c x64),(9,.c x64)],[]⟩,[(0,⟨[(8,.c x64)],[]⟩)])]⟩
def bM (N:Nat):Sig:=.of [.cell false .str] [.cell false (.int .i64),.cell false (.int .i64)] (fun a=>QZ N a)
theorem uN (N:Nat):Spec Tryz.prog 226 (bM N):=Ad (C:=ctx Tryz.prog [(266,kH N)] AaT) (L:=AcA) (fn:=Tryz.f226) (N:=N) (Af ⟨yY N,trivial⟩)
end
noncomputable section
def oL:List (Nat×Nrm):=[(3,⟨[],[],[],[],[]⟩),(11,⟨[12,13,14],[],[],[],[]⟩),(18,⟨[12,13,14],[],[],[],[]⟩),(38,⟨[12,13,14,21,22,23],[],[],[],[]⟩)]
def tK:Lk:=⟨[],[(18,⟨[(12,.i),(13,.i),(14,.c x64)],[]⟩,[(0,⟨[],[]⟩)]),(38,⟨[(12,.i),(13,.i),(14,.i),(21,.i),(22,.i),(23,.c x64)],[]⟩,[(2,⟨[(12,.i),(13,.i),(14,.i)],[]⟩)])]⟩
def NP (N:Nat):Sig:=.of [Sq0] [.cell false .bool] (fun a=>EI N a)
theorem Qh (N:Nat):Spec Tryz.prog 69 (NP N):=Ad (C:=ctx Tryz.prog [] oL) (L:=tK) (fn:=Tryz.f69) (N:=N) (Af trivial)
def AhD:List (Nat×Nrm):=[(3,⟨[3],[],[],[],[]⟩),(22,⟨[0,3,4],[],[],[],[]⟩)]
def Ajq:Lk:=⟨[],[(22,⟨[(0,.i),(3,.c x64),(4,.c x64)],[]⟩,[(0,⟨[(3,.c x64)],[]⟩)])]⟩
def AbH (N:Nat):Sig:=.of [.cell false .str] [.cell false (.int .i64)] (fun a=>Yv N a)
theorem AeB (N:Nat):Spec Tryz.prog 243 (AbH N):=Ad (C:=ctx Tryz.prog [] AhD [] [] [] [7,11,12,16,20,21]) (L:=Ajq) (fn:=Tryz.f243) (N:=N) (Af trivial)
def yJ (N:Nat):Sig:=.of [.cell false (.int .i64),.cell false (.int .i64)] [.cell false .bool] (fun a=>ZI N a.1 a.2)
theorem Ac3 (N:Nat):Spec Tryz.prog 244 (yJ N):=Ad (C:=ctx Tryz.prog [] []) (L:=⟨[],[]⟩) (fn:=Tryz.f244) (N:=N) (Af trivial)
def cZ (N:Nat):Sig:=.of [.cell false (.int .u8)] [.cell false .bool] (fun a=>qQ N a)
theorem vF (N:Nat):Spec Tryz.prog 286 (cZ N):=Ad (C:=ctx Tryz.prog [] [] [] [] [] [5,8,9,12,15,16,17,20,23,24]) (L:=⟨[],[]⟩) (fn:=Tryz.f286) (N:=N) (Af trivial)
def Abf (N:Nat):Sig:=.of [.cell false (.int .u8)] [.cell false .bool] (fun a=>Iy N a)
theorem pK (N:Nat):Spec Tryz.prog 288 (Abf N):=Ad (C:=ctx Tryz.prog [] []) (L:=⟨[],[]⟩) (fn:=Tryz.f288) (N:=N) (Af trivial)
def wZ (N:Nat):Sig:=.of [.cell false (.int .i64)] [.cell false (.int .i64)] (fun a=>sK N a)
theorem Aci (N:Nat):Spec Tryz.prog 205 (wZ N):=Ad (C:=ctx Tryz.prog [] []) (L:=⟨[],[]⟩) (fn:=Tryz.f205) (N:=N) (Af trivial)
end
noncomputable section
def S9 (N:Nat):Sig:=.of [.cell false (.int .u8)] [.cell false .bool] (fun a=>Ht N a)
theorem UR (N:Nat):Spec Tryz.prog 299 (S9 N):=Ad (C:=ctx Tryz.prog [] [] [] [] [] [5,8,9,12,15,16]) (L:=⟨[],[]⟩) (fn:=Tryz.f299) (N:=N) (Af trivial)
def UQ (N:Nat):Sig:=.of [.cell false (.int .u8)] [.cell false .bool] (fun a=>GN N a)
theorem Wp (N:Nat):Spec Tryz.prog 300 (UQ N):=Ad (C:=ctx Tryz.prog [] []) (L:=⟨[],[]⟩) (fn:=Tryz.f300) (N:=N) (Af trivial)
def bF (N:Nat):Sig:=.of [.cell false .str] [.cell false .str,.cell false .str] (fun a=>QV N a)
theorem sS (N:Nat):Spec Tryz.prog 277 (bF N):=Ad (C:=ctx Tryz.prog [] []) (L:=⟨[],[]⟩) (fn:=Tryz.f277) (N:=N) (Af trivial)
def xK (N:Nat):Sig:=.of [.cell false .str,.cell false (.int .i64)] [.cell false .bool] (fun a=>QE N a.1 a.2)
theorem Acl (N:Nat):Spec Tryz.prog 278 (xK N):=Ad (C:=ctx Tryz.prog [] []) (L:=⟨[],[]⟩) (fn:=Tryz.f278) (N:=N) (Af trivial)
def Yf (N:Nat):Sig:=.of [.cell false .str] [.cell false .bool] (fun a=>Kv N a)
theorem oI (N:Nat):Spec Tryz.prog 250 (Yf N):=Ad (C:=ctx Tryz.prog [] []) (L:=⟨[],[]⟩) (fn:=Tryz.f250) (N:=N) (Af trivial)
def La (N:Nat):Sig:=.of [] [.cell false (.sl 92 Tq4)] (fun _=>OH N)
theorem Md (N:Nat):Spec Tryz.prog 44 (La N):=Ad (C:=ctx Tryz.prog [] []) (L:=⟨[],[]⟩) (fn:=Tryz.f44) (N:=N) (Af trivial)
def XT (N:Nat):Sig:=.of [.cell false (.int .i64)] [.cell false .bool] (fun a=>EX N a)
theorem oC (N:Nat):Spec Tryz.prog 53 (XT N):=Ad (C:=ctx Tryz.prog [] []) (L:=⟨[],[]⟩) (fn:=Tryz.f53) (N:=N) (Af trivial)
def qW (N:Nat):Sig:=.of [.cell false (.int .i64)] [.cell false (.int .i64)] (fun a=>lX N a)
theorem Abi (N:Nat):Spec Tryz.prog 279 (qW N):=Ad (C:=ctx Tryz.prog [] []) (L:=⟨[],[]⟩) (fn:=Tryz.f279) (N:=N) (Af trivial)
end
noncomputable section
def jP:List (Nat×Nrm):=[(3,⟨[],[],[],[],[]⟩),(18,⟨[8,9,10],[],[],[],[]⟩)]
def oM:Lk:=⟨[],[(18,⟨[(8,.i),(9,.i),(10,.c x64)],[]⟩,[(0,⟨[],[]⟩)])]⟩
def Tu (N:Nat):Sig:=.of [.cell false (.sl 80 Tq1)] [.cell false .bool] (fun a=>JI N a)
theorem Z8 (N:Nat):Spec Tryz.prog 40 (Tu N):=Ad (C:=ctx Tryz.prog [(69,NP N)] jP) (L:=oM) (fn:=Tryz.f40) (N:=N) (Af ⟨Qh N,trivial⟩)
def AfD:List (Nat×Nrm):=[(3,⟨[4],[([4],3,(.int .i64 .nil),1004096)],[],[(1000000,1004096)],[]⟩),(26,⟨[4,18,19,20],[([4],3,(.int .i64 .nil),1000000)],[],[(40704,1000000)],[]⟩)]
def AhE:Lk:=⟨[],[(26,⟨[(4,.c (xo 1000000)),(18,.i),(19,.i),(20,.c x64)],[(1000000,.arr 3 false (.int .i64 .nil))]⟩,[(0,⟨[(4,.c (xo 1004096))],[(1004096,.arr 3 false (.int .i64 .nil))]⟩)])]⟩
def ZH (N:Nat):Sig:=.of [.cell false .str] [Sq3] (fun a=>Vg N a)
theorem bJ (N:Nat):Spec Tryz.prog 204 (ZH N):=Ad (C:=ctx Tryz.prog [(242,JR N),(243,AbH N),(244,yJ N)] AfD) (L:=AhE) (fn:=Tryz.f204) (N:=N) (Af ⟨RX N,AeB N,Ac3 N,trivial⟩)
def Abe (N:Nat):Sig:=.of [.cell false (.int .u8)] [.cell false .bool] (fun a=>Iw N a)
theorem pJ (N:Nat):Spec Tryz.prog 285 (Abe N):=Ad (C:=ctx Tryz.prog [(286,cZ N),(287,JB N)] []) (L:=⟨[],[]⟩) (fn:=Tryz.f285) (N:=N) (Af ⟨vF N,Nb N,trivial⟩)
def Acn:List (Nat×Nrm):=[(3,⟨[],[],[],[],[]⟩),(18,⟨[27,28,29],[],[],[],[]⟩)]
def Aeo:Lk:=⟨[],[(18,⟨[(27,.c (xo 39680)),(28,.i),(29,.c x64)],[(39680,.arr 5 false (.int .u8 .nil))]⟩,[(0,⟨[],[]⟩)])]⟩
def jB (N:Nat):Sig:=.of [.cell false .str] [.cell false .bool] (fun a=>TW N a)
theorem xM (N:Nat):Spec Tryz.prog 296 (jB N):=Ad (C:=ctx Tryz.prog [(299,S9 N),(300,UQ N)] Acn [] [] [] [8,12,13,17,18,25]) (L:=Aeo) (fn:=Tryz.f296) (N:=N) (Af ⟨UR N,Wp N,trivial⟩)
def Acp:List (Nat×Nrm):=[(3,⟨[],[],[],[],[]⟩),(18,⟨[32,33,34],[],[],[],[]⟩)]
def Aep:Lk:=⟨[],[(18,⟨[(32,.c (xo 40960)),(33,.i),(34,.c x64)],[(40960,.arr 5 false (.int .u8 .nil))]⟩,[(0,⟨[],[]⟩)])]⟩
def jC (N:Nat):Sig:=.of [.cell false .str] [.cell false .bool] (fun a=>Ph N a)
theorem xN (N:Nat):Spec Tryz.prog 274 (jC N):=Ad (C:=ctx Tryz.prog [(276,KQ N),(299,S9 N),(300,UQ N),(287,JB N)] Acp [] [] [] [9,13,14,18,19,26,27,30]) (L:=Aep) (fn:=Tryz.f274) (N:=N) (Af ⟨OB N,UR N,Wp N,Nb N,trivial⟩)
def Ack:List (Nat×Nrm):=[(3,⟨[],[],[],[],[]⟩),(26,⟨[3,4,5,6],[],[],[],[]⟩)]
def Aen:Lk:=⟨[],[(26,⟨[(3,.i),(4,.i),(5,.c xb),(6,.c x64)],[]⟩,[(0,⟨[],[]⟩)])]⟩
def jA (N:Nat):Sig:=.of [.cell false .str] [.cell false .bool] (fun a=>Pg N a)
theorem xJ (N:Nat):Spec Tryz.prog 249 (jA N):=Ad (C:=ctx Tryz.prog [(277,bF N),(278,xK N)] Ack [] [] [] [32,34,35,38,42,43]) (L:=Aen) (fn:=Tryz.f249) (N:=N) (Af ⟨sS N,Acl N,trivial⟩)
def vY:List (Nat×Nrm):=[(3,⟨[2],[],[],[],[]⟩),(10,⟨[0,2,6,7,8],[],[],[],[]⟩)]
def Aak:Lk:=⟨[],[(10,⟨[(0,.i),(2,.c (.c (.ptr 33280 0))),(6,.i),(7,.i),(8,.c x64)],[(33280,.box [(.c (.str ([]:Bs))),(.c (.int .i64 0)),(.c (.fn 0)),(.c (.fn 0)),(.c (.fn 0))])]⟩,[(0,⟨[(2,.c (.c (.ptr 33280 0)))],[(33280,.box [(.c (.str ([]:Bs))),(.c (.int .i64 0)),(.c (.fn 0)),(.c (.fn 0)),(.c (.fn 0))])]⟩)])]⟩
def XH (N:Nat):Sig:=.of [.cell false .str] [Sq8,.cell false .bool] (fun a=>gK N a)
theorem o5 (N:Nat):Spec Tryz.prog 159 (XH N):=Ad (C:=ctx Tryz.prog [(44,La N)] vY) (L:=Aak) (fn:=Tryz.f159) (N:=N) (Af ⟨Md N,trivial⟩)
def AfP:List (Nat×Nrm):=[(3,⟨[0,2,5,6,7,8,9],[],[],[],[]⟩),(74,⟨[0,2,5,6,7,8,9,50,51,52],[],[],[],[]⟩),(101,⟨[0,2,5,6,7,8],[],[],[],[]⟩)]
def Aie:Lk:=⟨[(101,⟨[(0,.i),(2,.c (.c (.ptr 33280 0))),(5,.c (.c (.ptr 34048 0))),(6,.i),(7,.c x64),(8,.c x64)],[(33280,.box [(.c (.int .i64 0)),(.c (.str ([]:Bs))),(.c (.str ([]:Bs)))]),(34048,.box [(.c (.int .i64 0)),(.c (.str ([]:Bs))),(.c (.str ([]:Bs)))])]⟩)],[(74,⟨[(0,.i),(2,.c (.c (.ptr 33280 0))),(5,.c (.c (.ptr 34048 0))),(6,.i),(7,.c x64),(8,.i),(9,.i),(50,.c (xo 45568)),(51,.i),(52,.c x64)],[(33280,.box [(.c (.int .i64 0)),(.c (.str ([]:Bs))),(.c (.str ([]:Bs)))]),(34048,.box [(.c (.int .i64 0)),(.c (.str ([]:Bs))),(.c (.str ([]:Bs)))]),(45568,.arr 5 false (.int .u8 .nil))]⟩,[(0,⟨[(0,.i),(2,.c (.c (.ptr 33280 0))),(5,.c (.c (.ptr 34048 0))),(6,.i),(7,.c x64),(8,.i),(9,.i)],[(33280,.box [(.c (.int .i64 0)),(.c (.str ([]:Bs))),(.c (.str ([]:Bs)))]),(34048,.box [(.c (.int .i64 0)),(.c (.str ([]:Bs))),(.c (.str ([]:Bs)))])]⟩)])]⟩
def Uk (N:Nat):Sig:=.of [.cell false .str] [Sq9,.cell false .str,.cell false (.int .i64)] (fun a=>Oa N a)
theorem Td (N:Nat):Spec Tryz.prog 251 (Uk N):=Ad (C:=ctx Tryz.prog [(279,qW N)] AfP) (L:=Aie) (fn:=Tryz.f251) (N:=N) (Af ⟨Abi N,trivial⟩)
end
noncomputable section
def rH (N:Nat):Sig:=.of [Sq2] [.cell false .bool] (fun a=>Qp N a)
theorem dI (N:Nat):Spec Tryz.prog 110 (rH N):=Ad (C:=ctx Tryz.prog [] []) (L:=⟨[],[]⟩) (fn:=Tryz.f110) (N:=N) (Af trivial)
def rJ (N:Nat):Sig:=.of [Sq2] [.cell false .bool] (fun a=>Qq N a)
theorem dJ (N:Nat):Spec Tryz.prog 113 (rJ N):=Ad (C:=ctx Tryz.prog [] []) (L:=⟨[],[]⟩) (fn:=Tryz.f113) (N:=N) (Af trivial)
def rM (N:Nat):Sig:=.of [Sq2] [.cell false .bool] (fun a=>Qr N a)
theorem dK (N:Nat):Spec Tryz.prog 116 (rM N):=Ad (C:=ctx Tryz.prog [] []) (L:=⟨[],[]⟩) (fn:=Tryz.f116) (N:=N) (Af trivial)
def rO (N:Nat):Sig:=.of [Sq2] [.cell false .bool] (fun a=>Qs N a)
theorem dL (N:Nat):Spec Tryz.prog 119 (rO N):=Ad (C:=ctx Tryz.prog [] []) (L:=⟨[],[]⟩) (fn:=Tryz.f119) (N:=N) (Af trivial)
def rP (N:Nat):Sig:=.of [Sq2] [.cell false .bool] (fun a=>Qu N a)
theorem dM (N:Nat):Spec Tryz.prog 122 (rP N):=Ad (C:=ctx Tryz.prog [] []) (L:=⟨[],[]⟩) (fn:=Tryz.f122) (N:=N) (Af trivial)
def rQ (N:Nat):Sig:=.of [Sq2] [.cell false .bool] (fun a=>Qv N a)
theorem dN (N:Nat):Spec Tryz.prog 125 (rQ N):=Ad (C:=ctx Tryz.prog [] []) (L:=⟨[],[]⟩) (fn:=Tryz.f125) (N:=N) (Af trivial)
def rU (N:Nat):Sig:=.of [Sq2] [.cell false .bool] (fun a=>Qw N a)
theorem dO (N:Nat):Spec Tryz.prog 128 (rU N):=Ad (C:=ctx Tryz.prog [] []) (L:=⟨[],[]⟩) (fn:=Tryz.f128) (N:=N) (Af trivial)
def rV (N:Nat):Sig:=.of [Sq2] [.cell false .bool] (fun a=>Qx N a)
theorem dP (N:Nat):Spec Tryz.prog 131 (rV N):=Ad (C:=ctx Tryz.prog [] []) (L:=⟨[],[]⟩) (fn:=Tryz.f131) (N:=N) (Af trivial)
end
noncomputable section
def rW (N:Nat):Sig:=.of [Sq2] [.cell false .bool] (fun a=>Qy N a)
theorem dQ (N:Nat):Spec Tryz.prog 134 (rW N):=Ad (C:=ctx Tryz.prog [] []) (L:=⟨[],[]⟩) (fn:=Tryz.f134) (N:=N) (Af trivial)
def o6 (N:Nat):Sig:=.of [Sq2] [.cell false .bool] (fun a=>OI N a)
theorem Za (N:Nat):Spec Tryz.prog 137 (o6 N):=Ad (C:=ctx Tryz.prog [] []) (L:=⟨[],[]⟩) (fn:=Tryz.f137) (N:=N) (Af trivial)
def o7 (N:Nat):Sig:=.of [Sq2] [.cell false .bool] (fun a=>OJ N a)
theorem Zb (N:Nat):Spec Tryz.prog 140 (o7 N):=Ad (C:=ctx Tryz.prog [] []) (L:=⟨[],[]⟩) (fn:=Tryz.f140) (N:=N) (Af trivial)
def o8 (N:Nat):Sig:=.of [Sq2] [.cell false .bool] (fun a=>OL N a)
theorem Zc (N:Nat):Spec Tryz.prog 143 (o8 N):=Ad (C:=ctx Tryz.prog [] []) (L:=⟨[],[]⟩) (fn:=Tryz.f143) (N:=N) (Af trivial)
def o9 (N:Nat):Sig:=.of [Sq2] [.cell false .bool] (fun a=>OM N a)
theorem Zd (N:Nat):Spec Tryz.prog 146 (o9 N):=Ad (C:=ctx Tryz.prog [] []) (L:=⟨[],[]⟩) (fn:=Tryz.f146) (N:=N) (Af trivial)
def NF (N:Nat):Sig:=.of [.box [(false,.bool)]] [.cell false .bool] (fun a=>Ik N a)
theorem Qc (N:Nat):Spec Tryz.prog 45 (NF N):=Ad (C:=ctx Tryz.prog [] []) (L:=⟨[],[]⟩) (fn:=Tryz.f45) (N:=N) (Af trivial)
def CS (N:Nat):Sig:=.of [.box [(false,.bool)],.cell false .str,.cell false (.int .i64)] [.cell false .str] (fun a=>BF N a.1 a.2.1 a.2.2)
theorem CJ (N:Nat):Spec Tryz.prog 71 (CS N):=Ad (C:=ctx Tryz.prog [] []) (L:=⟨[],[]⟩) (fn:=Tryz.f71) (N:=N) (Af trivial)
def AfQ:List (Nat×Nrm):=[(3,⟨[0,1,6],[],[],[],[]⟩),(22,⟨[0,1,6,21,22,23],[],[],[],[]⟩),(77,⟨[1,9],[],[],[(45568,1008192),(47616,1008192),(49664,1008192),(52480,1008192)],[]⟩)]
def Aif:Lk:=⟨[(77,⟨[(1,.i),(9,.c (xo 1008192))],[(1008192,.arr 5 false (.int .u8 .nil))]⟩)],[(22,⟨[(0,.i),(1,.i),(6,.c x64),(21,.i),(22,.i),(23,.c x64)],[]⟩,[(0,⟨[(0,.i),(1,.i),(6,.c x64)],[]⟩)])]⟩
def IX (N:Nat):Sig:=.of [.cell false (.int .i64),Sq1] [.cell false .str,.cell false (.int .i64)] (fun a=>Ci N a.1 a.2)
theorem GK (N:Nat):Spec Tryz.prog 164 (IX N):=Ad (C:=ctx Tryz.prog [(215,QL N)] AfQ) (L:=Aif) (fn:=Tryz.f164) (N:=N) (Af ⟨TJ N,trivial⟩)
end
noncomputable section
def iH (N n:Nat):Sig:=.of [Sq2] [.cell false .bool] (Aaq N n)
theorem wG (N:Nat):lZ Tryz.prog (iH N):=Aar (Ag:=[Sq2]) (AA:=[.cell false .bool]) (l:=[(110,fun a=>Qp N a),(113,fun a=>Qq N a),(116,fun a=>Qr N a),(119,fun a=>Qs N a),(122,fun a=>Qu N a),(125,fun a=>Qv N a),(128,fun a=>Qw N a),(131,fun a=>Qx N a),(134,fun a=>Qy N a),(137,fun a=>OI N a),(140,fun a=>OJ N a),(143,fun a=>OL N a),(146,fun a=>OM N a)]) ⟨dI N,dJ N,dK N,dL N,dM N,dN N,dO N,dP N,dQ N,Za N,Zb N,Zc N,Zd N,trivial⟩
def CE (N:Nat):Sig:=.of [.box [(false,.bool)],.cell false (.int .i64),Sq1] [.cell false .str] (fun a=>AV N a.1 a.2.1 a.2.2)
theorem Cb (N:Nat):Spec Tryz.prog 70 (CE N):=Ad (C:=ctx Tryz.prog [(164,IX N),(71,CS N)] []) (L:=⟨[],[]⟩) (fn:=Tryz.f70) (N:=N) (Af ⟨GK N,CJ N,trivial⟩)
def UZ (N:Nat):Sig:=.of [Ny] [Ag2] (fun a=>Ls N a)
theorem eF (N:Nat):Spec Tryz.prog 188 (UZ N):=Ad (C:=ctx Tryz.prog [(33,BH N)] []) (L:=⟨[],[]⟩) (fn:=Tryz.f188) (N:=N) (Af ⟨BB N,trivial⟩)
def Ae1:List (Nat×Nrm):=[(3,⟨[5],[([5],9,(.str .nil),1016384)],[],[(1000000,1016384)],[]⟩),(11,⟨[0,1,5,6,7,8],[([5],9,(.str .nil),1012288)],[],[(1008192,1012288)],[]⟩),(14,⟨[0,1,5,6],[([5],9,(.str .nil),1000000)],[],[(44288,1000000),(1012288,1000000)],[]⟩),(33,⟨[0,1,5,6,7],[([5],9,(.str .nil),1004096)],[],[(1000000,1004096)],[]⟩),(42,⟨[0,1,5,6,7,8,27,28,29],[([5,27],9,(.str .nil),1008192)],[],[(1004096,1008192)],[]⟩)]
def AfA:Lk:=⟨[(33,⟨[(0,.c (.c (.ptr 0 0))),(1,.i),(5,.c (xo 1004096)),(6,.i),(7,.c xs)],[(0,.box [(xl (.int .i64 .nil)),x64]),(1004096,.arr 9 false (.str .nil))]⟩)],[(14,⟨[(0,.c (.c (.ptr 0 0))),(1,.i),(5,.c (xo 1000000)),(6,.c x64)],[(0,.box [(xl (.int .i64 .nil)),x64]),(1000000,.arr 9 false (.str .nil))]⟩,[(0,⟨[(5,.c (xo 1016384))],[(0,.box [(xl (.int .i64 .nil)),x64]),(1016384,.arr 9 false (.str .nil))]⟩)]),(42,⟨[(0,.c (.c (.ptr 0 0))),(1,.i),(5,.c (xo 1008192)),(6,.i),(7,.i),(8,.c xb),(27,.c (xo 1008192)),(28,.i),(29,.c x64)],[(0,.box [(xl (.int .i64 .nil)),x64]),(1008192,.arr 9 false (.str .nil))]⟩,[(2,⟨[(0,.c (.c (.ptr 0 0))),(1,.i),(5,.c (xo 1012288)),(6,.i),(7,.i),(8,.c xb)],[(0,.box [(xl (.int .i64 .nil)),x64]),(1012288,.arr 9 false (.str .nil))]⟩)])]⟩
def qF (N:Nat):Sig:=.of [Ny,.cell false .bool] [AnN] (fun a=>RI N a.1 a.2)
theorem AaG (N:Nat):Spec Tryz.prog 96 (qF N):=Ad (C:=ctx Tryz.prog [(33,BH N),(41,Np N)] Ae1) (L:=AfA) (fn:=Tryz.f96) (N:=N) (Af ⟨BB N,NL N,trivial⟩)
def tV:List (Nat×Nrm):=[(3,⟨[3],[([3],74,(.str (.str .nil)),1012288)],[],[(1000000,1012288)],[]⟩),(11,⟨[0,3,4,5,6],[([3],74,(.str (.str .nil)),1008192)],[],[(1004096,1008192)],[]⟩),(14,⟨[0,3,4],[([3],74,(.str (.str .nil)),1000000)],[],[(43264,1000000),(1008192,1000000)],[]⟩),(34,⟨[0,3,4,5,6,23,24,25],[([3,23],74,(.str (.str .nil)),1004096)],[],[(1000000,1004096)],[]⟩)]
def yA:Lk:=⟨[],[(14,⟨[(0,.c (.c (.ptr 0 0))),(3,.c (xo 1000000)),(4,.c x64)],[(0,.box [(xl (.int .i64 .nil)),x64]),(1000000,.arr 74 false (.str (.str .nil)))]⟩,[(0,⟨[(3,.c (xo 1012288))],[(0,.box [(xl (.int .i64 .nil)),x64]),(1012288,.arr 74 false (.str (.str .nil)))]⟩)]),(34,⟨[(0,.c (.c (.ptr 0 0))),(3,.c (xo 1004096)),(4,.i),(5,.c (.c (.ptr 34048 0))),(6,.c xb),(23,.c (xo 1004096)),(24,.i),(25,.c x64)],[(0,.box [(xl (.int .i64 .nil)),x64]),(34048,.box [xs,xs]),(1004096,.arr 74 false (.str (.str .nil)))]⟩,[(2,⟨[(0,.c (.c (.ptr 0 0))),(3,.c (xo 1008192)),(4,.i),(5,.c (.c (.ptr 34048 0))),(6,.c xb)],[(0,.box [(xl (.int .i64 .nil)),x64]),(34048,.box [xs,xs]),(1008192,.arr 74 false (.str (.str .nil)))]⟩)])]⟩
def Wv (N:Nat):Sig:=.of [Ny] [AnO] (fun a=>Nr N a)
theorem jS (N:Nat):Spec Tryz.prog 97 (Wv N):=Ad (C:=ctx Tryz.prog [(33,BH N),(41,Np N)] tV) (L:=yA) (fn:=Tryz.f97) (N:=N) (Af ⟨BB N,NL N,trivial⟩)
def oK:List (Nat×Nrm):=[(17,⟨[0,2,3],[],[],[],[]⟩)]
def tC:Lk:=⟨[(17,⟨[(0,.i),(2,.c (.c (.ptr 33280 0))),(3,.c xs)],[(33280,.box [(xo 33281)]),(33281,.AP 175 false (.sl 177 Tq0 .nil))]⟩)],[]⟩
def UX (N:Nat):Sig:=.of [.cell false (.int .i64)] [Sq0] (fun a=>Il N a)
theorem dY (N:Nat):Spec Tryz.prog 180 (UX N):=Ad (C:=ctx Tryz.prog [(227,Xw N)] oK) (L:=tC) (fn:=Tryz.f180) (N:=N) (Af ⟨Y0 N,trivial⟩)
def NV (N:Nat):Sig:=.of [.cell false .str] [.cell false .bool] (fun a=>Du N a)
theorem Qi (N:Nat):Spec Tryz.prog 65 (NV N):=Ad (C:=ctx Tryz.prog [(162,Vr N)] []) (L:=⟨[],[]⟩) (fn:=Tryz.f65) (N:=N) (Af ⟨WN N,trivial⟩)
def kP:List (Nat×Nrm):=[(7,⟨[],[],[],[],[]⟩),(25,⟨[0,1,11],[],[],[],[]⟩),(30,⟨[0,1,5],[],[],[],[]⟩)]
def oV:Lk:=⟨[(25,⟨[(0,.i),(1,.i),(11,.c xb)],[]⟩)],[(30,⟨[(0,.i),(1,.i),(5,.c x64)],[]⟩,[(1,⟨[],[]⟩)])]⟩
def TC (N:Nat):Sig:=.of [.cell false (.int .i64),.cell false .str] [.cell false .bool] (fun a=>Dw N a.1 a.2)
theorem ZU (N:Nat):Spec Tryz.prog 219 (TC N):=Ad (C:=ctx Tryz.prog [(260,kQ N),(261,Nu N),(262,SK N)] kP [] [] [] [22,27,32,33,34,37,43,44,50,51]) (L:=oV) (fn:=Tryz.f219) (N:=N) (Af ⟨yZ N,NU N,Vj N,trivial⟩)
end
noncomputable section
def dZ:List (Nat×Nrm):=[(3,⟨[],[],[],[],[]⟩),(18,⟨[8,9,10],[],[],[],[]⟩)]
def jQ:Lk:=⟨[],[(18,⟨[(8,.i),(9,.i),(10,.c x64)],[]⟩,[(0,⟨[],[]⟩)])]⟩
def RH (N:Nat):Sig:=.of [.cell false (.sl 111 Tq2)] [.cell false .bool] (fun a=>II N a)
theorem Yq (N:Nat):Spec Tryz.prog 21 (RH N):=Ad (C:=ctx Tryz.prog [(40,Tu N),(69,NP N)] dZ) (L:=jQ) (fn:=Tryz.f21) (N:=N) (Af ⟨Z8 N,Qh N,trivial⟩)
def MS (N:Nat):Sig:=.of [.cell false .str] [.cell false .bool] (fun a=>GR N a)
theorem Lt (N:Nat):Spec Tryz.prog 156 (MS N):=Ad (C:=ctx Tryz.prog [(204,ZH N)] []) (L:=⟨[],[]⟩) (fn:=Tryz.f156) (N:=N) (Af ⟨bJ N,trivial⟩)
def Abu (N n:Nat):Sig:=.of [.cell false (.int .u8)] [.cell false .bool] (mX N n)
theorem AgZ (N:Nat):lZ Tryz.prog (Abu N):=Aar (Ag:=[.cell false (.int .u8)]) (AA:=[.cell false .bool]) (l:=[(285,fun a=>Iw N a),(288,fun a=>Iy N a)]) ⟨pJ N,pK N,trivial⟩
def Af5:List (Nat×Nrm):=[(3,⟨[],[],[],[],[]⟩),(18,⟨[9,10,11],[],[],[],[]⟩)]
def Ahp:Lk:=⟨[],[(18,⟨[(9,.i),(10,.i),(11,.c x64)],[]⟩,[(0,⟨[],[]⟩)])]⟩
def OZ (N:Nat):Sig:=.of [.cell false .str] [.cell false .bool] (fun a=>Fj N a)
theorem Nj (N:Nat):Spec Tryz.prog 271 (OZ N):=Ad (C:=ctx Tryz.prog [(242,JR N),(296,jB N)] Af5) (L:=Ahp) (fn:=Tryz.f271) (N:=N) (Af ⟨RX N,xM N,trivial⟩)
def WU (N:Nat):Sig:=.of [.cell false .str] [Sq9,.cell false (.int .i64)] (fun a=>Ut N a)
theorem V8 (N:Nat):Spec Tryz.prog 207 (WU N):=Ad (C:=ctx Tryz.prog [(251,Uk N)] []) (L:=⟨[],[]⟩) (fn:=Tryz.f207) (N:=N) (Af ⟨Td N,trivial⟩)
def AcV:List (Nat×Nrm):=[(3,⟨[],[],[],[],[]⟩),(18,⟨[1,5],[],[],[],[]⟩)]
def Afi:Lk:=⟨[],[(18,⟨[(1,.i),(5,.c xs)],[]⟩,[(0,⟨[],[]⟩)])]⟩
def Tf (N n:Nat):Sig:=.of [Sq9,.cell false (.int .i64)] [.cell false (.int .i64)] (fun a=>aV N n a.1 a.2)
theorem VA (N:Nat): ∀ n,Spec Tryz.prog 208 (Tf N n)
  | 0=>lQ (C:=ctx Tryz.prog [] []) (fn:=Tryz.f208) (Af (gs:=[]) trivial) (by kernel_rfl) (by kernel_rfl)
  | n+1=>Ad (C:=ctx Tryz.prog ((208,Tf N n)::[(251,Uk N)]) AcV) (L:=Afi) (fn:=Tryz.f208) (N:=N) (Af ⟨VA N n,⟨Td N,trivial⟩⟩)
def lY (N:Nat):Sig:=Tf N N
theorem zV (N:Nat):Spec Tryz.prog 208 (lY N):=VA N N
def Dk (N:Nat):Sig:=.of [.box [(false,.bool)],Sq1] [.cell false .str] (fun a=>Bo N a.1 a.2)
theorem CQ (N:Nat):Spec Tryz.prog 75 (Dk N):=Ad (C:=ctx Tryz.prog [(70,CE N)] []) (L:=⟨[],[]⟩) (fn:=Tryz.f75) (N:=N) (Af ⟨Cb N,trivial⟩)
def NG (N:Nat):Sig:=.of [.box [(false,.bool)],.cell false (.int .i64)] [.cell false .str] (fun a=>Q7 N a.1 a.2)
theorem Qd (N:Nat):Spec Tryz.prog 189 (NG N):=Ad (C:=ctx Tryz.prog [(199,MF N),(70,CE N)] []) (L:=⟨[],[]⟩) (fn:=Tryz.f189) (N:=N) (Af ⟨P7 N,Cb N,trivial⟩)
end
noncomputable section
def AfN:List (Nat×Nrm):=[(3,⟨[],[],[],[],[]⟩),(10,⟨[0,1,5],[],[],[],[]⟩)]
def Aic:Lk:=⟨[],[(10,⟨[(0,.i),(1,.i),(5,.c x64)],[]⟩,[(0,⟨[],[]⟩)])]⟩
def zQ (N:Nat):Sig:=.of [.cell false .str,.cell false .fn] [.cell false .bool] (fun a=>NZ N a.1 a.2)
theorem AcS (N:Nat):Spec Tryz.prog 284 (zQ N):=Ad (C:=ctx Tryz.prog [] AfN [] [(12,Abu N)]) (L:=Aic) (fn:=Tryz.f284) (N:=N) (Af trivial trivial ⟨AgZ N,trivial⟩)
def Xn (N:Nat):Sig:=.of [.cell false .str] [.cell false .bool] (fun a=>Kw N a)
theorem Yg (N:Nat):Spec Tryz.prog 246 (Xn N):=Ad (C:=ctx Tryz.prog [(273,bZ N),(274,jC N),(271,OZ N)] [] [] [] [] [13,17,18,21,22,25]) (L:=⟨[],[]⟩) (fn:=Tryz.f246) (N:=N) (Af ⟨uY N,xN N,Nj N,trivial⟩)
def qA (N:Nat):Sig:=.of [.cell false .str] [.cell false .bool] (fun a=>Ry N a)
theorem Aa8 (N:Nat):Spec Tryz.prog 247 (qA N):=Ad (C:=ctx Tryz.prog [(271,OZ N)] []) (L:=⟨[],[]⟩) (fn:=Tryz.f247) (N:=N) (Af ⟨Nj N,trivial⟩)
def Yh (N:Nat):Sig:=.of [.cell false .str] [.cell false .bool] (fun a=>Ky N a)
theorem oJ (N:Nat):Spec Tryz.prog 248 (Yh N):=Ad (C:=ctx Tryz.prog [(275,Ql N),(271,OZ N),(276,KQ N)] []) (L:=⟨[],[]⟩) (fn:=Tryz.f248) (N:=N) (Af ⟨X3 N,Nj N,OB N,trivial⟩)
def dB:List (Nat×Nrm):=[(3,⟨[],[],[],[],[]⟩),(11,⟨[0,13,14,15],[],[],[],[]⟩),(18,⟨[0,13,14,15],[],[],[],[]⟩),(38,⟨[0,6,13,14,15,25,26,27],[],[],[],[]⟩)]
def gJ:Lk:=⟨[],[(18,⟨[(0,.i),(13,.i),(14,.i),(15,.c x64)],[]⟩,[(0,⟨[],[]⟩)]),(38,⟨[(0,.i),(6,.i),(13,.i),(14,.i),(15,.i),(25,.i),(26,.i),(27,.c x64)],[]⟩,[(2,⟨[(0,.i),(13,.i),(14,.i),(15,.i)],[]⟩)])]⟩
def Ro (N:Nat):Sig:=.of [Sq1,.cell false (.int .i64)] [.cell false (.int .i64)] (fun a=>N7 N a.1 a.2)
theorem XB (N:Nat):Spec Tryz.prog 54 (Ro N):=Ad (C:=ctx Tryz.prog [(156,MS N)] dB) (L:=gJ) (fn:=Tryz.f54) (N:=N) (Af ⟨Lt N,trivial⟩)
def U1:List (Nat×Nrm):=[(3,⟨[],[],[],[],[]⟩),(11,⟨[0,10,11,12],[],[],[],[]⟩),(18,⟨[0,10,11,12],[],[],[],[]⟩),(38,⟨[0,4,10,11,12,29,30,31],[],[],[],[]⟩)]
def VF:Lk:=⟨[],[(18,⟨[(0,.i),(10,.i),(11,.i),(12,.c x64)],[]⟩,[(0,⟨[],[]⟩)]),(38,⟨[(0,.i),(4,.c (.c (.ptr 33792 0))),(10,.i),(11,.i),(12,.i),(29,.i),(30,.i),(31,.c x64)],[(33792,.box [xs,xs])]⟩,[(2,⟨[(0,.i),(10,.i),(11,.i),(12,.i)],[]⟩)])]⟩
def LM (N:Nat):Sig:=.of [Sq6] [.cell false (.int .i64)] (fun a=>Og N a)
theorem Sj (N:Nat):Spec Tryz.prog 55 (LM N):=Ad (C:=ctx Tryz.prog [(156,MS N)] U1) (L:=VF) (fn:=Tryz.f55) (N:=N) (Af ⟨Lt N,trivial⟩)
def qR (N:Nat):Sig:=.of [.cell false .str] [.cell false (.int .i64)] (fun a=>AbU N a)
theorem Abg (N:Nat):Spec Tryz.prog 160 (qR N):=Ad (C:=ctx Tryz.prog [(207,WU N),(208,lY N)] []) (L:=⟨[],[]⟩) (fn:=Tryz.f160) (N:=N) (Af ⟨V8 N,zV N,trivial⟩)
end
noncomputable section
def AeW:List (Nat×Nrm):=[(3,⟨[],[],[],[],[]⟩),(11,⟨[10,11,12],[],[],[],[]⟩),(18,⟨[10,11,12],[],[],[],[]⟩),(38,⟨[4,5,10,11,12],[],[],[],[]⟩)]
def AfG:Lk:=⟨[],[(18,⟨[(10,.i),(11,.i),(12,.c x64)],[]⟩,[(0,⟨[],[]⟩)]),(38,⟨[(4,.i),(5,.c x64),(10,.i),(11,.i),(12,.i)],[]⟩,[(2,⟨[(10,.i),(11,.i),(12,.i)],[]⟩)])]⟩
def MW (N:Nat):Sig:=.of [.cell false .str] [.cell false .bool] (fun a=>DR N a)
theorem LC (N:Nat):Spec Tryz.prog 252 (MW N):=Ad (C:=ctx Tryz.prog [(254,SQ N),(261,Nu N)] AeW [] [] [] [19,23,24,28,29,36]) (L:=AfG) (fn:=Tryz.f252) (N:=N) (Af ⟨Vy N,NU N,trivial⟩)
def Rf (N:Nat):Sig:=.of [.cell false .str] [Sq9,.cell false (.int .i64)] (fun a=>Ou N a)
theorem QK (N:Nat):Spec Tryz.prog 81 (Rf N):=Ad (C:=ctx Tryz.prog [(169,Vp N)] []) (L:=⟨[],[]⟩) (fn:=Tryz.f81) (N:=N) (Af ⟨WL N,trivial⟩)
def DX (N:Nat):Sig:=.of [.cell false (.int .i64),Sq1] [.cell false .str] (fun a=>Bd N a.1 a.2)
theorem Dy (N:Nat):Spec Tryz.prog 48 (DX N):=Ad (C:=ctx Tryz.prog [(151,Vq N)] []) (L:=⟨[],[]⟩) (fn:=Tryz.f48) (N:=N) (Af ⟨WM N,trivial⟩)
def kM:List (Nat×Nrm):=[(3,⟨[6],[([6],5,(.int .u8 .nil),1020480)],[],[(1000000,1020480)],[]⟩),(11,⟨[6,9,30,31,32],[([6],5,(.int .u8 .nil),1008192)],[],[(1004112,1008192)],[]⟩),(19,⟨[6,9,30,31,32],[([6],5,(.int .u8 .nil),1016384)],[],[(1012288,1016384)],[]⟩),(30,⟨[6,30,31,32],[([6],5,(.int .u8 .nil),1000000)],[],[(48384,1000000)],[]⟩),(42,⟨[6,8,9,30,31,32],[([9],5,(.int .u8 .nil),1004096),([6],5,(.int .u8 .nil),1004112)],[],[(43264,1004096),(1000000,1004112)],[]⟩),(58,⟨[6,9,10,30,31,32],[([6],5,(.int .u8 .nil),1012288)],[],[(1008192,1012288)],[]⟩)]
def oQ:Lk:=⟨[],[(30,⟨[(6,.c (xo 1000000)),(30,.c (xo 40192)),(31,.i),(32,.c x64)],[(40192,.arr 3 false (.int .i64 .nil)),(1000000,.arr 5 false (.int .u8 .nil))]⟩,[(0,⟨[(6,.c (xo 1020480))],[(1020480,.arr 5 false (.int .u8 .nil))]⟩)]),(42,⟨[(6,.c (xo 1004112)),(8,.c x64),(9,.c (xo 1004096)),(30,.c (xo 40192)),(31,.i),(32,.i)],[(40192,.arr 3 false (.int .i64 .nil)),(1004096,.arr 5 false (.int .u8 .nil)),(1004112,.arr 5 false (.int .u8 .nil))]⟩,[(2,⟨[(6,.c (xo 1008192)),(9,.c (xo 43264)),(30,.c (xo 40192)),(31,.i),(32,.i)],[(40192,.arr 3 false (.int .i64 .nil)),(43264,.arr 5 false (.int .u8 .nil)),(1008192,.arr 5 false (.int .u8 .nil))]⟩)]),(58,⟨[(6,.c (xo 1012288)),(9,.c (xo 43264)),(10,.c x64),(30,.c (xo 40192)),(31,.i),(32,.i)],[(40192,.arr 3 false (.int .i64 .nil)),(43264,.arr 5 false (.int .u8 .nil)),(1012288,.arr 5 false (.int .u8 .nil))]⟩,[(4,⟨[(6,.c (xo 1016384)),(9,.c (xo 43264)),(30,.c (xo 40192)),(31,.i),(32,.i)],[(40192,.arr 3 false (.int .i64 .nil)),(43264,.arr 5 false (.int .u8 .nil)),(1016384,.arr 5 false (.int .u8 .nil))]⟩)])]⟩
def TB (N:Nat):Sig:=.of [.cell false .str] [.cell false .str,.cell false (.int .i64)] (fun a=>JL N a)
theorem ZT (N:Nat):Spec Tryz.prog 153 (TB N):=Ad (C:=ctx Tryz.prog [(162,Vr N)] kM) (L:=oQ) (fn:=Tryz.f153) (N:=N) (Af ⟨WN N,trivial⟩)
def qN (N:Nat):Sig:=.of [.cell false (.int .i64),Sq1] [.cell false .str,.cell false (.int .i64)] (fun a=>O7 N a.1 a.2)
theorem AaW (N:Nat):Spec Tryz.prog 78 (qN N):=Ad (C:=ctx Tryz.prog [(151,Vq N)] []) (L:=⟨[],[]⟩) (fn:=Tryz.f78) (N:=N) (Af ⟨WM N,trivial⟩)
def Y7:List (Nat×Nrm):=[(3,⟨[],[],[],[],[]⟩),(18,⟨[0,1,12,13],[],[],[],[]⟩)]
def ZW:Lk:=⟨[],[(18,⟨[(0,.i),(1,.i),(12,.i),(13,.c x64)],[]⟩,[(0,⟨[],[]⟩)])]⟩
def PM (N:Nat):Sig:=.of [.cell false (.sl 80 Tq1),.cell false (.sl 80 Tq1)] [.cell false .bool] (fun a=>GY N a.1 a.2)
theorem VM (N:Nat):Spec Tryz.prog 105 (PM N):=Ad (C:=ctx Tryz.prog [(108,NW N)] Y7) (L:=ZW) (fn:=Tryz.f105) (N:=N) (Af ⟨Qk N,trivial⟩)
end
noncomputable section
def Tq (N:Nat):Sig:=.of [.box [(false,.bool)],.cell false (.int .i64),.cell false .bool] [.cell false .str] (fun a=>Wh N a.1 a.2.1 a.2.2)
theorem Zm (N:Nat):Spec Tryz.prog 190 (Tq N):=Ad (C:=ctx Tryz.prog [(233,Tv N),(70,CE N)] []) (L:=⟨[],[]⟩) (fn:=Tryz.f190) (N:=N) (Af ⟨ZL N,Cb N,trivial⟩)
def gW (N:Nat):Sig:=.of [.box [(false,.bool)],Sq2] [.cell false .str] (fun a=>NC N a.1 a.2)
theorem XR (N:Nat):Spec Tryz.prog 114 (gW N):=Ad (C:=ctx Tryz.prog [(73,P5 N),(71,CS N),(70,CE N)] []) (L:=⟨[],[]⟩) (fn:=Tryz.f114) (N:=N) (Af ⟨RN N,CJ N,Cb N,trivial⟩)
def Ac1:List (Nat×Nrm):=[(3,⟨[5],[],[],[(37888,1004096),(1000000,1004096)],[]⟩),(26,⟨[5,22,23,24],[],[],[(37888,1000000),(40448,1000000)],[]⟩)]
def AeA:Lk:=⟨[],[(26,⟨[(5,.c (xo 1000000)),(22,.i),(23,.i),(24,.c x64)],[(1000000,.arr 5 true (.int .u8 .nil))]⟩,[(0,⟨[(5,.c (xo 1004096))],[(1004096,.arr 5 true (.int .u8 .nil))]⟩)])]⟩
def Vf (N:Nat):Sig:=.of [.cell false .str] [.cell false .str,.cell false (.int .i64)] (fun a=>Pv N a)
theorem WB (N:Nat):Spec Tryz.prog 236 (Vf N):=Ad (C:=ctx Tryz.prog [(204,ZH N),(267,AbI N)] Ac1) (L:=AeA) (fn:=Tryz.f236) (N:=N) (Af ⟨bJ N,AeC N,trivial⟩)
def YZ (N:Nat):Sig:=.of [.box [(false,.bool)],Sq2] [.cell false .str] (fun a=>Ko N a.1 a.2)
theorem VJ (N:Nat):Spec Tryz.prog 138 (YZ N):=Ad (C:=ctx Tryz.prog [(70,CE N)] []) (L:=⟨[],[]⟩) (fn:=Tryz.f138) (N:=N) (Af ⟨Cb N,trivial⟩)
def Ae0:List (Nat×Nrm):=[(3,⟨[2,3],[],[],[(33637,1012288),(1000000,1012288)],[]⟩),(11,⟨[0,2,3,4,5],[([5],177,Tq0,1008192)],[],[(33637,1008208),(1004096,1008192),(1004112,1008208)],[]⟩),(14,⟨[0,2,3,4],[],[],[(33637,1000000),(44288,1000000)],[]⟩),(30,⟨[0,2,3,4,5,6],[([5],177,Tq0,1004096)],[],[(33637,1004112),(43008,1004096),(1000000,1004112)],[]⟩)]
def Af9:Lk:=⟨[],[(14,⟨[(0,.c (.c (.ptr 0 0))),(2,.c (.c (.ptr 33280 0))),(3,.c (.c (.ptr 33536 0))),(4,.c x64)],[(0,.box [(xl (.int .i64 .nil)),x64]),(33280,.box [(xo 33281)]),(33281,.AP 175 false (.sl 177 Tq0 .nil)),(33536,.box [(xo 1000000)]),(1000000,.arr 175 false (.sl 177 Tq0 .nil))]⟩,[(0,⟨[(2,.c (.c (.ptr 33280 0))),(3,.c (.c (.ptr 33536 0)))],[(0,.box [(xl (.int .i64 .nil)),x64]),(33280,.box [(xo 33281)]),(33281,.AP 175 false (.sl 177 Tq0 .nil)),(33536,.box [(xo 1012288)]),(1012288,.arr 175 false (.sl 177 Tq0 .nil))]⟩)]),(30,⟨[(0,.c (.c (.ptr 0 0))),(2,.c (.c (.ptr 33280 0))),(3,.c (.c (.ptr 33536 0))),(4,.i),(5,.c (xo 1004096)),(6,.c x64)],[(0,.box [(xl (.int .i64 .nil)),x64]),(33280,.box [(xo 33281)]),(33281,.AP 175 false (.sl 177 Tq0 .nil)),(33536,.box [(xo 1004112)]),(1004096,.arr 177 false Tq0),(1004112,.arr 175 false (.sl 177 Tq0 .nil))]⟩,[(2,⟨[(0,.c (.c (.ptr 0 0))),(2,.c (.c (.ptr 33280 0))),(3,.c (.c (.ptr 33536 0))),(4,.i),(5,.c (xo 1008192))],[(0,.box [(xl (.int .i64 .nil)),x64]),(33280,.box [(xo 33281)]),(33281,.AP 175 false (.sl 177 Tq0 .nil)),(33536,.box [(xo 1008208)]),(1008192,.arr 177 false Tq0),(1008208,.arr 175 false (.sl 177 Tq0 .nil))]⟩)])]⟩
def Xt (N:Nat):Sig:=.of [Ny] [Sq0] (fun a=>RG N a)
theorem Yp (N:Nat):Spec Tryz.prog 109 (Xt N):=Ad (C:=ctx Tryz.prog [(33,BH N),(188,UZ N)] Ae0) (L:=Af9) (fn:=Tryz.f109) (N:=N) (Af ⟨BB N,eF N,trivial⟩)
def Vz:List (Nat×Nrm):=[(3,⟨[],[],[],[],[]⟩),(10,⟨[0,6,7,8],[],[],[],[]⟩),(11,⟨[0,6,7,8],[],[],[],[]⟩),(46,⟨[0,3,4,5,6,7,8],[],[],[],[]⟩)]
def VN:Lk:=⟨[],[(10,⟨[(0,.i),(6,.i),(7,.i),(8,.c x64)],[]⟩,[(0,⟨[],[]⟩)]),(46,⟨[(0,.i),(3,.i),(4,.c (.c (.ptr 33792 0))),(5,.c x64),(6,.i),(7,.i),(8,.i)],[(33792,.box [xs,x64,xs])]⟩,[(2,⟨[(0,.i),(6,.i),(7,.i),(8,.i)],[]⟩)])]⟩
def LV (N:Nat):Sig:=.of [.cell false (.sl 177 Tq0)] [.cell false (.int .i64)] (fun a=>CX N a)
theorem SS (N:Nat):Spec Tryz.prog 168 (LV N):=Ad (C:=ctx Tryz.prog [(65,NV N),(219,TC N)] Vz) (L:=VN) (fn:=Tryz.f168) (N:=N) (Af ⟨Qi N,ZU N,trivial⟩)
def Abc:List (Nat×Nrm):=[(3,⟨[0,5],[],[],[],[]⟩),(11,⟨[0,5],[],[],[],[]⟩),(18,⟨[0,5],[],[],[],[]⟩),(38,⟨[0,5,6],[],[],[],[]⟩)]
def AcM:Lk:=⟨[],[(18,⟨[(0,.i),(5,.c x64)],[]⟩,[(0,⟨[(0,.i),(5,.c x64)],[]⟩)]),(38,⟨[(0,.i),(5,.i),(6,.c x64)],[]⟩,[(2,⟨[(0,.i),(5,.i)],[]⟩)])]⟩
def bV (N:Nat):Sig:=.of [.cell false .str] [.cell false .str,.cell false .str,.cell false .bool] (fun a=>Ri N a)
theorem uV (N:Nat):Spec Tryz.prog 253 (bV N):=Ad (C:=ctx Tryz.prog [(252,MW N),(261,Nu N),(262,SK N)] Abc [] [] [] [24,27,28,33,34,41,42,46,47,53,64,70,71,76,82,83]) (L:=AcM) (fn:=Tryz.f253) (N:=N) (Af ⟨LC N,NU N,Vj N,trivial⟩)
def kS (N:Nat):Sig:=.of [.cell false .str] [.cell false .bool] (fun a=>PK N a)
theorem zB (N:Nat):Spec Tryz.prog 211 (kS N):=Ad (C:=ctx Tryz.prog [(252,MW N)] []) (L:=⟨[],[]⟩) (fn:=Tryz.f211) (N:=N) (Af ⟨LC N,trivial⟩)
end
noncomputable section
def WS (N:Nat):Sig:=.of [.cell false .str] [.cell false .bool] (fun a=>Jn N a)
theorem kZ (N:Nat):Spec Tryz.prog 212 (WS N):=Ad (C:=ctx Tryz.prog [(252,MW N),(254,SQ N)] [] [] [] [] [5,9,13,14,18,19,23,24,29,30]) (L:=⟨[],[]⟩) (fn:=Tryz.f212) (N:=N) (Af ⟨LC N,Vy N,trivial⟩)
def bW (N:Nat):Sig:=.of [.cell false (.int .i64),.cell false (.int .i64)] [.cell false .str] (fun a=>Jz N a.1 a.2)
theorem uX (N:Nat):Spec Tryz.prog 49 (bW N):=Ad (C:=ctx Tryz.prog [(152,Vo N),(48,DX N)] []) (L:=⟨[],[]⟩) (fn:=Tryz.f49) (N:=N) (Af ⟨eG N,Dy N,trivial⟩)
def qO (N:Nat):Sig:=.of [.cell false .str] [.cell false .str] (fun a=>WR N a)
theorem AaX (N:Nat):Spec Tryz.prog 50 (qO N):=Ad (C:=ctx Tryz.prog [(153,TB N),(48,DX N)] []) (L:=⟨[],[]⟩) (fn:=Tryz.f50) (N:=N) (Af ⟨ZT N,Dy N,trivial⟩)
end
noncomputable section
def fC:List (Nat×Nrm):=[(3,⟨[],[],[],[],[]⟩),(18,⟨[0,1,12,13],[],[],[],[]⟩)]
def lC:Lk:=⟨[],[(18,⟨[(0,.i),(1,.i),(12,.i),(13,.c x64)],[]⟩,[(0,⟨[],[]⟩)])]⟩
def RU (N:Nat):Sig:=.of [.cell false (.sl 111 Tq2),.cell false (.sl 111 Tq2)] [.cell false .bool] (fun a=>IQ N a.1 a.2)
theorem YC (N:Nat):Spec Tryz.prog 38 (RU N):=Ad (C:=ctx Tryz.prog [(105,PM N),(108,NW N)] fC [] [] [] [28,40,41,53,54,67]) (L:=lC) (fn:=Tryz.f38) (N:=N) (Af ⟨VM N,Qk N,trivial⟩)
def Wx (N:Nat):Sig:=.of [Ny,.cell false .str] [.cell false .str] (fun a=>Fp N a.1 a.2)
theorem jT (N:Nat):Spec Tryz.prog 82 (Wx N):=Ad (C:=ctx Tryz.prog [(33,BH N),(48,DX N),(26,SC N)] []) (L:=⟨[],[]⟩) (fn:=Tryz.f82) (N:=N) (Af ⟨BB N,Dy N,UY N,trivial⟩)
def AfO:List (Nat×Nrm):=[(3,⟨[4],[([4],123,Tq6,1004096)],[],[(1000000,1004096)],[]⟩),(10,⟨[0,4],[([4],123,Tq6,1000000)],[],[(38400,1000000)],[]⟩)]
def Aid:Lk:=⟨[],[(10,⟨[(0,.c xs),(4,.c (xo 1000000))],[(1000000,.arr 123 false Tq6)]⟩,[(0,⟨[(4,.c (xo 1004096))],[(1004096,.arr 123 false Tq6)]⟩)])]⟩
def LJ (N:Nat):Sig:=.of [.cell false .str] [.cell false (.sl 123 Tq6),.cell false (.int .i64)] (fun a=>KT N a)
theorem Jt (N:Nat):Spec Tryz.prog 220 (LJ N):=Ad (C:=ctx Tryz.prog [(251,Uk N)] AfO) (L:=Aid) (fn:=Tryz.f220) (N:=N) (Af ⟨Td N,trivial⟩)
def Ac5:List (Nat×Nrm):=[(3,⟨[8],[],[],[],[]⟩),(46,⟨[4,8,35,36],[],[],[],[]⟩)]
def AeI:Lk:=⟨[],[(46,⟨[(4,.i),(8,.c x64),(35,.i),(36,.c x64)],[]⟩,[(0,⟨[(8,.c x64)],[]⟩)])]⟩
def kD (N:Nat):Sig:=.of [.cell false .str] [.cell false (.int .i64),.cell false (.int .i64)] (fun a=>Pz N a)
theorem yP (N:Nat):Spec Tryz.prog 175 (kD N):=Ad (C:=ctx Tryz.prog [(223,qL N),(224,yR N)] Ac5) (L:=AeI) (fn:=Tryz.f175) (N:=N) (Af ⟨AaP N,Ac6 N,trivial⟩)
def KJ (N:Nat):Sig:=.of [Sq9,.cell false (.int .i64)] [Am8,.cell false (.int .i64)] (fun a=>FI N a.1 a.2)
theorem JM (N:Nat):Spec Tryz.prog 89 (KJ N):=Ad (C:=ctx Tryz.prog [(83,PD N)] []) (L:=⟨[],[]⟩) (fn:=Tryz.f89) (N:=N) (Af ⟨PE N,trivial⟩)
def SV (N:Nat):Sig:=.of [.cell false .str,.cell false (.int .i64)] [Sq9,.cell false (.int .i64)] (fun a=>MZ N a.1 a.2)
theorem V4 (N:Nat):Spec Tryz.prog 177 (SV N):=Ad (C:=ctx Tryz.prog [(81,Rf N)] []) (L:=⟨[],[]⟩) (fn:=Tryz.f177) (N:=N) (Af ⟨QK N,trivial⟩)
def kK:List (Nat×Nrm):=[(3,⟨[0,4,6],[],[],[],[]⟩),(18,⟨[0,4,5,6,7,8],[],[],[],[]⟩),(69,⟨[0,4,6,7,8],[],[],[],[]⟩)]
def oP:Lk:=⟨[(69,⟨[(0,.i),(4,.c xs),(6,.i),(7,.c x64),(8,.i)],[]⟩)],[(18,⟨[(0,.i),(4,.c xs),(5,.c x64),(6,.c xb),(7,.c x64),(8,.c x64)],[]⟩,[(0,⟨[(0,.i),(4,.c xs),(6,.c xb)],[]⟩)])]⟩
def TA (N:Nat):Sig:=.of [.cell false .str] [.cell false .str,.cell false (.int .i64)] (fun a=>JK N a)
theorem ZR (N:Nat):Spec Tryz.prog 229 (TA N):=Ad (C:=ctx Tryz.prog [(227,Xw N),(65,NV N)] kK) (L:=oP) (fn:=Tryz.f229) (N:=N) (Af ⟨Y0 N,Qi N,trivial⟩)
end
noncomputable section
def kT:List (Nat×Nrm):=[(3,⟨[],[],[],[],[]⟩),(18,⟨[11,12,13],[],[],[],[]⟩)]
def oW:Lk:=⟨[],[(18,⟨[(11,.i),(12,.i),(13,.c x64)],[]⟩,[(0,⟨[],[]⟩)])]⟩
def F5 (N:Nat):Sig:=.of [Sq0] [.cell false (.int .i64)] (fun a=>Dx N a)
theorem FH (N:Nat):Spec Tryz.prog 80 (F5 N):=Ad (C:=ctx Tryz.prog [(168,LV N)] kT) (L:=oW) (fn:=Tryz.f80) (N:=N) (Af ⟨SS N,trivial⟩)
def Vx (N:Nat):Sig:=.of [.cell false .str] [.cell false .bool] (fun a=>LD N a)
theorem WQ (N:Nat):Spec Tryz.prog 210 (Vx N):=Ad (C:=ctx Tryz.prog [(253,bV N)] []) (L:=⟨[],[]⟩) (fn:=Tryz.f210) (N:=N) (Af ⟨uV N,trivial⟩)
def fA:List (Nat×Nrm):=[(3,⟨[3],[([3],9,(.str .nil),1004096)],[],[(1000000,1004096)],[]⟩),(14,⟨[3,6,7,8],[([3],9,(.str .nil),1000000)],[],[(39168,1000000)],[]⟩)]
def l7:Lk:=⟨[],[(14,⟨[(3,.c (xo 1000000)),(6,.i),(7,.i),(8,.c x64)],[(1000000,.arr 9 false (.str .nil))]⟩,[(0,⟨[(3,.c (xo 1004096))],[(1004096,.arr 9 false (.str .nil))]⟩)])]⟩
def RS (N:Nat):Sig:=.of [.cell false (.sl 177 Tq0)] [Sq1] (fun a=>IP N a)
theorem Y8 (N:Nat):Spec Tryz.prog 241 (RS N):=Ad (C:=ctx Tryz.prog [(50,qO N),(48,DX N)] fA) (L:=l7) (fn:=Tryz.f241) (N:=N) (Af ⟨AaX N,Dy N,trivial⟩)
def Zz:List (Nat×Nrm):=[(3,⟨[],[],[],[],[]⟩),(18,⟨[0,1,11,12],[],[],[],[]⟩)]
def dX:Lk:=⟨[],[(18,⟨[(0,.i),(1,.i),(11,.i),(12,.c x64)],[]⟩,[(0,⟨[],[]⟩)])]⟩
def Qg (N:Nat):Sig:=.of [.cell false (.sl 111 Tq2),.cell false (.sl 111 Tq2)] [.cell false .bool] (fun a=>Fv N a.1 a.2)
theorem Xq (N:Nat):Spec Tryz.prog 30 (Qg N):=Ad (C:=ctx Tryz.prog [(38,RU N),(68,O5 N),(95,MG N)] Zz) (L:=dX) (fn:=Tryz.f30) (N:=N) (Af ⟨YC N,Vu N,PL N,trivial⟩)
def AaF:List (Nat×Nrm):=[(3,⟨[5,9],[],[],[],[]⟩),(46,⟨[0,5,8,9,10,52,53,54],[],[],[],[]⟩)]
def Acv:Lk:=⟨[],[(46,⟨[(0,.c (.c (.ptr 0 0))),(5,.c (.c (.ptr 34048 0))),(8,.i),(9,.c xs),(10,.i),(52,.i),(53,.i),(54,.c x64)],[(0,.box [(xl (.int .i64 .nil)),x64]),(34048,.box [x64,xs,xs])]⟩,[(0,⟨[(5,.c (.c (.ptr 34048 0))),(9,.c xs)],[(0,.box [(xl (.int .i64 .nil)),x64]),(34048,.box [x64,xs,xs])]⟩)])]⟩
def QH (N n:Nat):Sig:=.of [Ny,.cell false .str] [.cell false .str] (fun a=>Jw N n a.1 a.2)
theorem Tt (N:Nat): ∀ n,Spec Tryz.prog 27 (QH N n)
  | 0=>lQ (C:=ctx Tryz.prog [] []) (fn:=Tryz.f27) (Af (gs:=[]) trivial) (by kernel_rfl) (by kernel_rfl)
  | n+1=>Ad (C:=ctx Tryz.prog ((27,QH N n)::[(81,Rf N),(82,Wx N),(83,PD N),(33,BH N),(48,DX N)]) AaF) (L:=Acv) (fn:=Tryz.f27) (N:=N) (Af ⟨Tt N n,⟨QK N,jT N,PE N,BB N,Dy N,trivial⟩⟩)
def bH (N:Nat):Sig:=QH N N
theorem tJ (N:Nat):Spec Tryz.prog 27 (bH N):=Tt N N
def iF (N:Nat):Sig:=.of [.cell false .str,.cell false (.int .i64)] [Sq9,.cell false (.int .i64)] (fun a=>Q4 N a.1 a.2)
theorem iG (N:Nat):Spec Tryz.prog 170 (iF N):=Ad (C:=ctx Tryz.prog [(207,WU N)] []) (L:=⟨[],[]⟩) (fn:=Tryz.f170) (N:=N) (Af ⟨V8 N,trivial⟩)
def Lc (N:Nat):Alt:=.of [.cell false .str] [WX,.cell false (.int .i64)] [.cell false .ptr,.cell false (.int .i64)] (fun a=>Kq N a)
theorem UG (N:Nat):Spec Tryz.prog 171 (Lc N).1/\Spec Tryz.prog 171 (Lc N).2.1:=YP (C:=ctx Tryz.prog [(220,LJ N)] []) (L:=⟨[],[]⟩) (fn:=Tryz.f171) (N:=N) (Af ⟨Jt N,trivial⟩) (by kernel_rfl) (by kernel_rfl) (fun a=>by kernel_rfl)
end
noncomputable section
def lF (N:Nat):Sig:=.of [.cell false .str] [.cell false (.int .i64),.cell false (.int .i64)] (fun a=>Ue N a)
theorem zD (N:Nat):Spec Tryz.prog 179 (lF N):=Ad (C:=ctx Tryz.prog [(226,bM N)] []) (L:=⟨[],[]⟩) (fn:=Tryz.f179) (N:=N) (Af ⟨uN N,trivial⟩)
end
noncomputable section
def UK:List (Nat×Nrm):=[(85,⟨[2,4,5,7],[],[],[],[]⟩)]
def VK:Lk:=⟨[(85,⟨[(2,.c (.c (.ptr 33280 0))),(4,.c (.c (.ptr 33792 0))),(5,.i),(7,.i)],[(33280,.box [(.c (.str ([]:Bs))),(.c (.int .i64 0)),(.c (.str ([]:Bs)))]),(33792,.box [(.c (.str ([]:Bs))),(.c (.int .i64 0)),(.c (.str ([]:Bs)))])]⟩)],[]⟩
def LQ (N:Nat):Sig:=.of [Sq9] [Ag2,.cell false (.int .i64)] (fun a=>Ff N a)
theorem Sm (N:Nat):Spec Tryz.prog 309 (LQ N):=Ad (C:=ctx Tryz.prog [(220,LJ N),(237,jY N)] UK) (L:=VK) (fn:=Tryz.f309) (N:=N) (Af ⟨Jt N,yH N,trivial⟩)
def lG (N:Nat):Sig:=.of [.cell false .str] [Am8,.cell false (.int .i64)] (fun a=>Uf N a)
theorem zF (N:Nat):Spec Tryz.prog 88 (lG N):=Ad (C:=ctx Tryz.prog [(177,SV N),(89,KJ N)] []) (L:=⟨[],[]⟩) (fn:=Tryz.f88) (N:=N) (Af ⟨V4 N,JM N,trivial⟩)
def TD (N:Nat):Sig:=.of [Sq9] [Ag2,.cell false (.int .i64)] (fun a=>JO N a)
theorem ZX (N:Nat):Spec Tryz.prog 291 (TD N):=Ad (C:=ctx Tryz.prog [(89,KJ N),(230,Qj N),(229,TA N),(94,KI N)] []) (L:=⟨[],[]⟩) (fn:=Tryz.f291) (N:=N) (Af ⟨JM N,Xz N,ZR N,O6 N,trivial⟩)
def PT (N:Nat):Sig:=.of [Ad5,.cell false (.int .i64)] [.cell false (.int .i64),.cell false (.int .i64)] (fun a=>Fb N a.1 a.2)
theorem VR (N:Nat):Spec Tryz.prog 91 (PT N):=Ad (C:=ctx Tryz.prog [(92,GX N),(179,lF N)] []) (L:=⟨[],[]⟩) (fn:=Tryz.f91) (N:=N) (Af ⟨Iq N,zD N,trivial⟩)
end
