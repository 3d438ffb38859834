import Derived.Test.YtbaomhegdndpnaaGreatDoorA16
import Derived.Test.YtbaomhegdndpnaaGreatDoorA17
set_option linter.all false
namespace Go.Proofs.YtbaomhegdndpnaaGreatDoor.Vm
noncomputable section
open Go.Proofs
def QN (N n:Nat):Sig:=.of [.cell false (.int .i64)] [.cell false .str] (fun a=>Sj N n a)
theorem Sm (N:Nat): ∀ n,Spec Tryz.prog 34 (QN N n)
  | 0=>qW (C:=ctx Tryz.prog [] []) (fn:=Tryz.f34) (Ac (gs:=[]) trivial) (by kernel_rfl) (by kernel_rfl)
  | n+1=>TA (C:=ctx Tryz.prog ((34,QN N n)::[]) []) (L:=⟨[],[]⟩) (fn:=Tryz.f34) (N:=N) (Ac ⟨Sm N n,trivial⟩)
def aI (N:Nat):Sig:=QN N N
theorem oL (N:Nat):Spec Tryz.prog 34 (aI N):=Sm N N
def zK:List (Nat×Nrm):=[(3,⟨[3],[([3],5,(.int .u8 .nil),1012288)],[],[(1000000,1012288)],[]⟩),(18,⟨[3,4,8,9,10],[([3],5,(.int .u8 .nil),1000000)],[],[(41472,1000000)],[]⟩),(45,⟨[3,4,6,8,9,10],[([3],5,(.int .u8 .nil),1004096)],[],[(38400,1004096),(1000000,1004096)],[]⟩),(53,⟨[3,4,6,8,9,10],[([3],5,(.int .u8 .nil),1008192)],[],[(1004096,1008192)],[]⟩)]
def AaE:Lk:=⟨[(45,⟨[(3,.c (xo 1004096)),(4,.c xb),(6,.i),(8,.c (xo 34816)),(9,.i),(10,.i)],[(34816,.arr 5 false (.int .u8 .nil)),(1004096,.arr 5 false (.int .u8 .nil))]⟩),(53,⟨[(3,.c (xo 1008192)),(4,.i),(6,.c x8),(8,.c (xo 34816)),(9,.i),(10,.i)],[(34816,.arr 5 false (.int .u8 .nil)),(1008192,.arr 5 false (.int .u8 .nil))]⟩)],[(18,⟨[(3,.c (xo 1000000)),(4,.c xb),(8,.c (xo 34816)),(9,.i),(10,.c x64)],[(34816,.arr 5 false (.int .u8 .nil)),(1000000,.arr 5 false (.int .u8 .nil))]⟩,[(0,⟨[(3,.c (xo 1012288))],[(1012288,.arr 5 false (.int .u8 .nil))]⟩)])]⟩
def aQ (N:Nat):Sig:=.of [Aj] [Aj] (fun a=>NK N a)
theorem oW (N:Nat):Ad 335 (aQ N):=Ah (Ag [] zK) AaE Tryz.f335 N (Ac trivial)
def fV:List (Nat×Nrm):=[(3,⟨[2,3],[([3],74,(.sl 73 Tq0 .nil),1004096)],[],[(1000000,1004096)],[]⟩),(14,⟨[2,3,7,8,9],[([3],74,(.sl 73 Tq0 .nil),1000000)],[],[(37120,1000000)],[]⟩)]
def lX:Lk:=⟨[],[(14,⟨[(2,.c (.c (.ptr 33280 0))),(3,.c (xo 1000000)),(7,.i),(8,.i),(9,.c x64)],[(33280,.box [(xo 33281)]),(33281,.AV 74 false (.sl 73 Tq0 .nil)),(1000000,.arr 74 false (.sl 73 Tq0 .nil))]⟩,[(0,⟨[(2,.c (.c (.ptr 33280 0))),(3,.c (xo 1004096))],[(33280,.box [(xo 33281)]),(33281,.AV 74 false (.sl 73 Tq0 .nil)),(1004096,.arr 74 false (.sl 73 Tq0 .nil))]⟩)])]⟩
def LW (N:Nat):Sig:=.of [Sq0] [Sq0] (fun a=>HY N a)
theorem Oz (N:Nat):Ad 50 (LW N):=Ah (Ag [] fV) lX Tryz.f50 N (Ac trivial)
def Rt (N:Nat):Sig:=.of [Ae] [Ae] (fun a=>Ef N a)
theorem PT (N:Nat):Ad 20 (Rt N):=Ah (Ag [] []) ⟨[],[]⟩ Tryz.f20 N (Ac trivial)
def Yb (N:Nat):Sig:=.of [] [Sq4] (fun _=>iV N)
theorem iW (N:Nat):Ad 282 (Yb N):=Ah (Ag [] []) ⟨[],[]⟩ Tryz.f282 N (Ac trivial)
def Md (N:Nat):Sig:=.of [] [Sq5] (fun _=>KC N)
theorem OC (N:Nat):Ad 312 (Md N):=Ah (Ag [] []) ⟨[],[]⟩ Tryz.f312 N (Ac trivial)
def ZR (N:Nat):Sig:=.of [.cell false (.int .u32),.cell false (.int .u64)] [.cell false (.int .u32)] (fun a=>Eo N a.1 a.2)
theorem nO (N:Nat):Ad 337 (ZR N):=Ah (Ag [] []) ⟨[],[]⟩ Tryz.f337 N (Ac trivial)
def Ws (N:Nat):Sig:=.of [] [Sq6] (fun _=>ZQ N)
theorem bW (N:Nat):Ad 338 (Ws N):=Ah (Ag [] []) ⟨[],[]⟩ Tryz.f338 N (Ac trivial)
end
noncomputable section
def oM:List (Nat×Nrm):=[(3,⟨[3],[],[],[],[]⟩),(14,⟨[3,8,9],[],[],[],[]⟩)]
def tY:Lk:=⟨[],[(14,⟨[(3,.c (xo 34304)),(8,.i),(9,.c x64)],[(34304,.arr 5 false (.int .u8 .nil))]⟩,[(0,⟨[(3,.c (xo 34304))],[(34304,.arr 5 false (.int .u8 .nil))]⟩)])]⟩
def WE (N:Nat):Sig:=.of [Aj] [Aj] (fun a=>MX N a)
theorem dV (N:Nat):Ad 336 (WE N):=Ah (Ag [] oM) tY Tryz.f336 N (Ac trivial)
def Zx:List (Nat×Nrm):=[(3,⟨[],[],[],[],[]⟩),(11,⟨[12,13,14],[],[],[],[]⟩),(18,⟨[12,13,14],[],[],[],[]⟩),(38,⟨[12,13,14,21,22,23],[],[],[],[]⟩)]
def dF:Lk:=⟨[],[(18,⟨[(12,.i),(13,.i),(14,.c x64)],[]⟩,[(0,⟨[],[]⟩)]),(38,⟨[(12,.i),(13,.i),(14,.i),(21,.i),(22,.i),(23,.c x64)],[]⟩,[(2,⟨[(12,.i),(13,.i),(14,.i)],[]⟩)])]⟩
def Fh (N:Nat):Sig:=.of [Sq0] [AZ] (fun a=>Cj N a)
theorem F6 (N:Nat):Ad 13 (Fh N):=Ah (Ag [] Zx) dF Tryz.f13 N (Ac trivial)
def jR (N:Nat):Sig:=.of [Abg] [Xg] (fun a=>dC N a)
theorem sK (N:Nat):Ad 14 (jR N):=Ah (Ag [] []) ⟨[],[]⟩ Tryz.f14 N (Ac trivial)
def CZ (N:Nat):Sig:=.of [Xg,Ae] [Ae] (fun a=>A8 N a.1 a.2)
theorem CV (N:Nat):Ad 16 (CZ N):=Ah (Ag [] []) ⟨[],[]⟩ Tryz.f16 N (Ac trivial)
def YA:List (Nat×Nrm):=[(3,⟨[],[],[],[],[]⟩),(11,⟨[2,3,16,17],[],[],[],[]⟩),(18,⟨[2,3,16,17],[],[],[],[]⟩),(38,⟨[2,3,5,16,17,38,39],[],[],[],[]⟩)]
def Z7:Lk:=⟨[],[(18,⟨[(2,.c (.c (.ptr 33280 0))),(3,.c (.c (.ptr 33536 0))),(16,.i),(17,.c x64)],[(33280,.box [(xl (.sl 73 Tq0 .nil))]),(33536,.box [(xl (.sl 73 Tq0 .nil))])]⟩,[(0,⟨[],[]⟩)]),(38,⟨[(2,.c (.c (.ptr 33280 0))),(3,.c (.c (.ptr 33536 0))),(5,.i),(16,.i),(17,.i),(38,.i),(39,.c x64)],[(33280,.box [(xl (.sl 73 Tq0 .nil))]),(33536,.box [(xl (.sl 73 Tq0 .nil))])]⟩,[(2,⟨[(2,.c (.c (.ptr 33280 0))),(3,.c (.c (.ptr 33536 0))),(16,.i),(17,.i)],[(33280,.box [(xl (.sl 73 Tq0 .nil))]),(33536,.box [(xl (.sl 73 Tq0 .nil))])]⟩)])]⟩
def OJ (N:Nat):Sig:=.of [Sq0,Sq0] [AZ] (fun a=>FV N a.1 a.2)
theorem VL (N:Nat):Ad 19 (OJ N):=Ah (Ag [] YA) Z7 Tryz.f19 N (Ac trivial)
end
noncomputable section
def aO (N:Nat):Sig:=.of [Ae] [Ae] (fun a=>FX N a)
theorem oQ (N:Nat):Ad 21 (aO N):=Ah (Ag [] []) ⟨[],[]⟩ Tryz.f21 N (Ac trivial)
end
noncomputable section
def merkle_Tree_valid_S (N:Nat):Sig:=.of [Sq9] [AZ] (fun a=>merkle_Tree_valid N a)
theorem Gj (N:Nat):Ad 119 (merkle_Tree_valid_S N):=Ah (Ag [] []) ⟨[],[]⟩ Tryz.f119 N (Ac trivial)
def oO:List (Nat×Nrm):=[(3,⟨[0,5,6],[],[],[],[]⟩),(11,⟨[0,5,6],[],[],[],[]⟩),(18,⟨[0,1,5,6,7],[],[],[],[]⟩),(19,⟨[0,13,14,15,16,17,18,19,20],[],[],[],[]⟩),(34,⟨[0,5,6,8],[],[],[],[]⟩),(66,⟨[0,5,6,13,14,15,16,17,18,19,20,21],[],[],[],[]⟩)]
def tZ:Lk:=⟨[],[(18,⟨[(0,.i),(1,.i),(5,.c (xo 39424)),(6,.c (.c (.Bc 34304 0 0))),(7,.c x64)],[(34304,.arr 205 false (.int .u32 .nil)),(39424,.arr 143 false (.int .u32 .nil))]⟩,[(0,⟨[(0,.i),(5,.c (xo 39424)),(6,.c (.c (.Bc 34304 0 0)))],[(34304,.arr 205 false (.int .u32 .nil)),(39424,.arr 143 false (.int .u32 .nil))]⟩)]),(34,⟨[(0,.i),(5,.c (xo 39424)),(6,.c (.c (.Bc 34304 0 0))),(8,.c x64)],[(34304,.arr 205 false (.int .u32 .nil)),(39424,.arr 143 false (.int .u32 .nil))]⟩,[(2,⟨[(0,.i),(5,.c (xo 39424)),(6,.c (.c (.Bc 34304 0 0)))],[(34304,.arr 205 false (.int .u32 .nil)),(39424,.arr 143 false (.int .u32 .nil))]⟩)]),(66,⟨[(0,.i),(5,.c (xo 39424)),(6,.c (.c (.Bc 34304 0 0))),(13,.c (xi .u32)),(14,.c (xi .u32)),(15,.c (xi .u32)),(16,.c (xi .u32)),(17,.c (xi .u32)),(18,.c (xi .u32)),(19,.c (xi .u32)),(20,.c (xi .u32)),(21,.c x64)],[(34304,.arr 205 false (.int .u32 .nil)),(39424,.arr 143 false (.int .u32 .nil))]⟩,[(4,⟨[(0,.i),(13,.c (xi .u32)),(14,.c (xi .u32)),(15,.c (xi .u32)),(16,.c (xi .u32)),(17,.c (xi .u32)),(18,.c (xi .u32)),(19,.c (xi .u32)),(20,.c (xi .u32))],[]⟩)])]⟩
def WG (N:Nat):Sig:=.of [AfX,Aj] [AfX] (fun a=>aK N a.1 a.2)
theorem dW (N:Nat):Ad 100 (WG N):=Ah (Ag [] oO) tZ Tryz.f100 N (Ac trivial)
def kP (N:Nat):Sig:=.of [Ae] [Aj] (fun a=>yY N a)
theorem uA (N:Nat):Ad 54 (kP N):=Ah (Ag [] []) ⟨[],[]⟩ Tryz.f54 N (Ac trivial)
def Ack:List (Nat×Nrm):=[(3,⟨[3],[],[],[],[]⟩),(22,⟨[0,3,4],[],[],[],[]⟩)]
def AdB:Lk:=⟨[],[(22,⟨[(0,.i),(3,.c x64),(4,.c x64)],[]⟩,[(0,⟨[(3,.c x64)],[]⟩)])]⟩
def qP (N:Nat):Sig:=.of [Aj] [Ae] (fun a=>AaT N a)
theorem yF (N:Nat):Ad 257 (qP N):=Ah (Ag [] Ack [] [] [] [7,11,12,16,20,21]) AdB Tryz.f257 N (Ac trivial)
def jX (N:Nat):Sig:=.of [Ae,Ae] [AZ] (fun a=>yH N a.1 a.2)
theorem sW (N:Nat):Ad 258 (jX N):=Ah (Ag [] []) ⟨[],[]⟩ Tryz.f258 N (Ac trivial)
def WL (N:Nat):Sig:=.of [.cell false (.int .u8)] [AZ] (fun a=>aS N a)
theorem eH (N:Nat):Ad 208 (WL N):=Ah (Ag [] [] [] [] [] [5,8,9,12,15,16,17,20,23,24]) ⟨[],[]⟩ Tryz.f208 N (Ac trivial)
def pF (N:Nat):Sig:=.of [.cell false (.int .u8)] [AZ] (fun a=>QT N a)
theorem ZC (N:Nat):Ad 210 (pF N):=Ah (Ag [] []) ⟨[],[]⟩ Tryz.f210 N (Ac trivial)
def Vb (N:Nat):Sig:=.of [Ae,Ae,Ae] [AZ] (fun a=>EZ N a.1 a.2.1 a.2.2)
theorem Wj (N:Nat):Ad 36 (Vb N):=Ah (Ag [] []) ⟨[],[]⟩ Tryz.f36 N (Ac trivial)
end
noncomputable section
def iR (N:Nat):Sig:=.of [Ae] [Ae] (fun a=>xE N a)
theorem rZ (N:Nat):Ad 150 (iR N):=Ah (Ag [] []) ⟨[],[]⟩ Tryz.f150 N (Ac trivial)
def Ol (N:Nat):Sig:=.of [.cell false (.int .u8)] [AZ] (fun a=>SY N a)
theorem Qw (N:Nat):Ad 306 (Ol N):=Ah (Ag [] [] [] [] [] [5,8,9,12,15,16]) ⟨[],[]⟩ Tryz.f306 N (Ac trivial)
def Qv (N:Nat):Sig:=.of [.cell false (.int .u8)] [AZ] (fun a=>Pm N a)
theorem RN (N:Nat):Ad 307 (Qv N):=Ah (Ag [] []) ⟨[],[]⟩ Tryz.f307 N (Ac trivial)
def Wu (N:Nat):Sig:=.of [Aj] [Aj,Aj] (fun a=>ZU N a)
theorem bY (N:Nat):Ad 275 (Wu N):=Ah (Ag [] []) ⟨[],[]⟩ Tryz.f275 N (Ac trivial)
def jB (N:Nat):Sig:=.of [Aj,Ae] [AZ] (fun a=>Vz N a.1 a.2)
theorem sG (N:Nat):Ad 276 (jB N):=Ah (Ag [] []) ⟨[],[]⟩ Tryz.f276 N (Ac trivial)
def Un (N:Nat):Sig:=.of [Aj] [AZ] (fun a=>Qs N a)
theorem Zt (N:Nat):Ad 216 (Un N):=Ah (Ag [] []) ⟨[],[]⟩ Tryz.f216 N (Ac trivial)
def TY (N:Nat):Sig:=.of [Sq2] [AZ] (fun a=>X7 N a)
theorem Zj (N:Nat):Ad 90 (TY N):=Ah (Ag [] []) ⟨[],[]⟩ Tryz.f90 N (Ac trivial)
def CU (N:Nat):Sig:=.of [.box [(false,.bool)],Aj,Ae] [Aj] (fun a=>BA N a.1 a.2.1 a.2.2)
theorem CP (N:Nat):Ad 78 (CU N):=Ah (Ag [] []) ⟨[],[]⟩ Tryz.f78 N (Ac trivial)
end
noncomputable section
def Zv:List (Nat×Nrm):=[(17,⟨[0,2,3],[],[],[],[]⟩)]
def dB:Lk:=⟨[(17,⟨[(0,.i),(2,.c (.c (.ptr 33280 0))),(3,.c xs)],[(33280,.box [(xo 33281)]),(33281,.AV 74 false (.sl 73 Tq0 .nil))]⟩)],[]⟩
def Fg (N:Nat):Sig:=.of [Ae] [Sq0] (fun a=>Bg N a)
theorem F5 (N:Nat):Ad 8 (Fg N):=Ah (Ag [(34,aI N)] Zv) dB Tryz.f8 N (Ac ⟨oL N,trivial⟩)
def YO (N:Nat):Sig:=.of [Aj,Aj] [AZ] (fun a=>LD N a.1 a.2)
theorem kY (N:Nat):Ad 310 (YO N):=Ah (Ag [(335,aQ N)] []) ⟨[],[]⟩ Tryz.f310 N (Ac ⟨oW N,trivial⟩)
def WU:List (Nat×Nrm):=[(3,⟨[2,4,5],[],[],[],[]⟩),(11,⟨[2,4,5],[],[],[],[]⟩),(14,⟨[1,2,4,5,6],[],[],[],[]⟩),(19,⟨[2,4,11],[],[],[],[]⟩),(27,⟨[4,11],[],[],[],[]⟩),(30,⟨[2,4,5,7],[],[],[],[]⟩),(62,⟨[2,4,5,10,11,12],[],[],[],[]⟩),(98,⟨[2,4,11,204],[],[],[],[]⟩)]
def Yd:Lk:=⟨[],[(14,⟨[(1,.i),(2,.c (.c (.Bc 33280 0 0))),(4,.c (.c (.Bc 33792 0 0))),(5,.c (.c (.Bc 34048 0 0))),(6,.c x64)],[(33280,.arr 305 false (.int .u32 .nil)),(33792,.arr 305 false (.int .u32 .nil)),(34048,.arr 205 false (.int .u32 .nil))]⟩,[(0,⟨[(2,.c (.c (.Bc 33280 0 0))),(4,.c (.c (.Bc 33792 0 0))),(5,.c (.c (.Bc 34048 0 0)))],[(33280,.arr 305 false (.int .u32 .nil)),(33792,.arr 305 false (.int .u32 .nil)),(34048,.arr 205 false (.int .u32 .nil))]⟩)]),(30,⟨[(2,.c (.c (.Bc 33280 0 0))),(4,.c (.c (.Bc 33792 0 0))),(5,.c (.c (.Bc 34048 0 0))),(7,.c x64)],[(33280,.arr 305 false (.int .u32 .nil)),(33792,.arr 305 false (.int .u32 .nil)),(34048,.arr 205 false (.int .u32 .nil))]⟩,[(2,⟨[(2,.c (.c (.Bc 33280 0 0))),(4,.c (.c (.Bc 33792 0 0))),(5,.c (.c (.Bc 34048 0 0)))],[(33280,.arr 305 false (.int .u32 .nil)),(33792,.arr 305 false (.int .u32 .nil)),(34048,.arr 205 false (.int .u32 .nil))]⟩)]),(62,⟨[(2,.c (.c (.Bc 33280 0 0))),(4,.c (.c (.Bc 33792 0 0))),(5,.c (.c (.Bc 34048 0 0))),(10,.c (.c (.Bc 35328 0 0))),(11,.c (.c (.Bc 35584 0 0))),(12,.c x64)],[(33280,.arr 305 false (.int .u32 .nil)),(33792,.arr 305 false (.int .u32 .nil)),(34048,.arr 205 false (.int .u32 .nil)),(35328,.arr 205 false (.int .u32 .nil)),(35584,.arr 305 false (.int .u32 .nil))]⟩,[(4,⟨[(2,.c (.c (.Bc 33280 0 0))),(4,.c (.c (.Bc 33792 0 0))),(11,.c (.c (.Bc 35584 0 0)))],[(33280,.arr 305 false (.int .u32 .nil)),(33792,.arr 305 false (.int .u32 .nil)),(35584,.arr 305 false (.int .u32 .nil))]⟩)]),(98,⟨[(2,.c (.c (.Bc 33280 0 0))),(4,.c (.c (.Bc 33792 0 0))),(11,.c (.c (.Bc 35584 0 0))),(204,.c x64)],[(33280,.arr 305 false (.int .u32 .nil)),(33792,.arr 305 false (.int .u32 .nil)),(35584,.arr 305 false (.int .u32 .nil))]⟩,[(6,⟨[(4,.c (.c (.Bc 33792 0 0))),(11,.c (.c (.Bc 35584 0 0)))],[(33792,.arr 305 false (.int .u32 .nil)),(35584,.arr 305 false (.int .u32 .nil))]⟩)])]⟩
def Ih (N:Nat):Sig:=.of [Sq5,Sq7] [Sq5] (fun a=>Fe N a.1 a.2)
theorem JK (N:Nat):Ad 313 (Ih N):=Ah (Ag [(337,ZR N),(338,Ws N)] WU) Yd Tryz.f313 N (Ac ⟨nO N,bW N,trivial⟩)
def merkle_Tree_Leaves_S (N:Nat):Sig:=.of [Sq9] [Ae] (fun a=>merkle_Tree_Leaves N a)
theorem F8 (N:Nat):Ad 99 (merkle_Tree_Leaves_S N):=Ah (Ag [(119,merkle_Tree_valid_S N)] []) ⟨[],[]⟩ Tryz.f99 N (Ac ⟨Gj N,trivial⟩)
def yV:List (Nat×Nrm):=[(3,⟨[3],[],[],[],[]⟩),(11,⟨[3,6,9],[],[],[],[]⟩),(14,⟨[3,15,16,17],[],[],[],[]⟩),(19,⟨[6],[],[(none,6,(.int .u32 .nil))],[],[]⟩),(27,⟨[12],[],[],[(51456,1032768),(1028672,1032768)],[]⟩),(49,⟨[3,6,7,8],[],[],[],[]⟩),(62,⟨[3,6,7,9,10],[],[],[],[]⟩),(82,⟨[3,6,11],[],[(none,6,(.int .u32 .nil))],[],[]⟩),(102,⟨[12,74,75,76],[],[],[(51456,1028672),(56576,1028672)],[]⟩)]
def Aa6:Lk:=⟨[(49,⟨[(3,.i),(6,.c (xo 39168)),(7,.i),(8,.c x64)],[(39168,.arr 143 false (.int .u32 .nil))]⟩)],[(14,⟨[(3,.c xs),(15,.i),(16,.i),(17,.c x64)],[]⟩,[(0,⟨[(3,.c xs)],[]⟩)]),(62,⟨[(3,.i),(6,.c (xo 39168)),(7,.i),(9,.c (xo 41984)),(10,.c x64)],[(39168,.arr 143 false (.int .u32 .nil)),(41984,.arr 5 false (.int .u8 .nil))]⟩,[(2,⟨[(3,.i),(6,.c (xo 39168)),(9,.c (xo 41984))],[(39168,.arr 143 false (.int .u32 .nil)),(41984,.arr 5 false (.int .u8 .nil))]⟩)]),(82,⟨[(3,.i),(6,.c (xl (.int .u32 .nil))),(11,.c x64)],[]⟩,[(4,⟨[(6,.c (xl (.int .u32 .nil)))],[]⟩)]),(102,⟨[(12,.c (xo 1028672)),(74,.i),(75,.i),(76,.c x64)],[(1028672,.arr 5 false (.int .u8 .nil))]⟩,[(6,⟨[(12,.c (xo 1032768))],[(1032768,.arr 5 false (.int .u8 .nil))]⟩)])]⟩
def aJ (N:Nat):Sig:=.of [Sq8] [Aj] (fun a=>qU N a)
theorem oN (N:Nat):Ad 53 (aJ N):=Ah (Ag [(100,WG N)] yV) Aa6 Tryz.f53 N (Ac ⟨dW N,trivial⟩)
def Aa0:List (Nat×Nrm):=[(3,⟨[4],[([4],3,(.int .i64 .nil),1004096)],[],[(1000000,1004096)],[]⟩),(26,⟨[4,18,19,20],[([4],3,(.int .i64 .nil),1000000)],[],[(40704,1000000)],[]⟩)]
def Acl:Lk:=⟨[],[(26,⟨[(4,.c (xo 1000000)),(18,.i),(19,.i),(20,.c x64)],[(1000000,.arr 3 false (.int .i64 .nil))]⟩,[(0,⟨[(4,.c (xo 1004096))],[(1004096,.arr 3 false (.int .i64 .nil))]⟩)])]⟩
def VD (N:Nat):Sig:=.of [Aj] [Aha] (fun a=>dN N a)
theorem W9 (N:Nat):Ad 192 (VD N):=Ah (Ag [(256,Hy N),(257,qP N),(258,jX N)] Aa0) Acl Tryz.f192 N (Ac ⟨NJ N,yF N,sW N,trivial⟩)
def oZ (N:Nat):Sig:=.of [.cell false (.int .u8)] [AZ] (fun a=>QS N a)
theorem ZB (N:Nat):Ad 207 (oZ N):=Ah (Ag [(208,WL N),(209,Hm N)] []) ⟨[],[]⟩ Tryz.f207 N (Ac ⟨eH N,Jo N,trivial⟩)
def sH:List (Nat×Nrm):=[(3,⟨[],[],[],[],[]⟩),(18,⟨[27,28,29],[],[],[],[]⟩)]
def xK:Lk:=⟨[],[(18,⟨[(27,.c (xo 39680)),(28,.i),(29,.c x64)],[(39680,.arr 5 false (.int .u8 .nil))]⟩,[(0,⟨[],[]⟩)])]⟩
def Yh (N:Nat):Sig:=.of [Aj] [AZ] (fun a=>jC N a)
theorem jD (N:Nat):Ad 303 (Yh N):=Ah (Ag [(306,Ol N),(307,Qv N)] sH [] [] [] [8,12,13,17,18,25]) xK Tryz.f303 N (Ac ⟨Qw N,RN N,trivial⟩)
end
noncomputable section
def Dj (N:Nat):Sig:=.of [IU] [Ae] (fun a=>Dt N a)
theorem Df (N:Nat):Ad 61 (Dj N):=Ah (Ag [] []) ⟨[],[]⟩ Tryz.f61 N (Ac trivial)
def kG:List (Nat×Nrm):=[(3,⟨[4],[],[],[],[]⟩),(30,⟨[0,4,42,43],[],[],[],[]⟩)]
def oI:Lk:=⟨[],[(30,⟨[(0,.i),(4,.c x64),(42,.i),(43,.c x64)],[]⟩,[(0,⟨[(4,.c x64)],[]⟩)])]⟩
def MJ (N:Nat):Sig:=.of [Aj] [Ae,Ae] (fun a=>QL N a)
theorem OH (N:Nat):Ad 164 (MJ N):=Ah (Ag [] kG [] [] [] [8,12,16,20,21,25,29,30,31,32]) oI Tryz.f164 N (Ac trivial)
def eP:List (Nat×Nrm):=[(3,⟨[],[],[],[],[]⟩),(10,⟨[0,3],[],[],[],[]⟩)]
def lC:Lk:=⟨[],[(10,⟨[(0,.i),(3,.c x64)],[]⟩,[(0,⟨[],[]⟩)])]⟩
def Su (N:Nat):Sig:=.of [.cell false (.sl 98 Tq5)] [AZ] (fun a=>WM N a)
theorem YQ (N:Nat):Ad 234 (Su N):=Ah (Ag [] eP) lC Tryz.f234 N (Ac trivial)
def mO:List (Nat×Nrm):=[(3,⟨[3],[],[],[],[]⟩),(14,⟨[3,7,8,9],[],[],[],[]⟩)]
def rQ:Lk:=⟨[],[(14,⟨[(3,.c x64),(7,.c (xo 34560)),(8,.i),(9,.c x64)],[(34560,.arr 5 false (.int .u8 .nil))]⟩,[(0,⟨[(3,.c x64)],[]⟩)])]⟩
def Oa (N:Nat):Sig:=.of [Aj] [Ae] (fun a=>Gg N a)
theorem Qd (N:Nat):Ad 236 (Oa N):=Ah (Ag [] mO) rQ Tryz.f236 N (Ac trivial)
def Eg (N:Nat):Sig:=.of [IU,Ae] [GY,AZ] (fun a=>CQ N a.1 a.2)
theorem Ec (N:Nat):Ad 109 (Eg N):=Ah (Ag [] []) ⟨[],[]⟩ Tryz.f109 N (Ac trivial)
def IX (N:Nat):Sig:=.of [IU] [Ae] (fun a=>FO N a)
theorem Kv (N:Nat):Ad 167 (IX N):=Ah (Ag [] []) ⟨[],[]⟩ Tryz.f167 N (Ac trivial)
def MI (N:Nat):Sig:=.of [Aj] [AZ,Ae] (fun a=>QJ N a)
theorem OG (N:Nat):Ad 288 (MI N):=Ah (Ag [] []) ⟨[],[]⟩ Tryz.f288 N (Ac trivial)
def kJ (N:Nat):Sig:=.of [Aj,Ae] [AZ] (fun a=>VG N a.1 a.2)
theorem tN (N:Nat):Ad 315 (kJ N):=Ah (Ag [] []) ⟨[],[]⟩ Tryz.f315 N (Ac trivial)
end
noncomputable section
def Jd (N:Nat):Sig:=.of [AZ] [Aj] (fun a=>Lc N a)
theorem Ld (N:Nat):Ad 200 (Jd N):=Ah (Ag [] []) ⟨[],[]⟩ Tryz.f200 N (Ac trivial)
def Og (N:Nat):Sig:=.of [Ae] [Ae] (fun a=>SS N a)
theorem Qq (N:Nat):Ad 266 (Og N):=Ah (Ag [] []) ⟨[],[]⟩ Tryz.f266 N (Ac trivial)
def dS:List (Nat×Nrm):=[(3,⟨[0,4],[],[],[],[]⟩),(11,⟨[5],[],[],[],[]⟩),(18,⟨[0,4],[],[],[],[]⟩),(38,⟨[0,5,34,35],[],[],[],[]⟩)]
def kH:Lk:=⟨[],[(18,⟨[(0,.i),(4,.c x64)],[]⟩,[(0,⟨[(0,.i),(4,.c x64)],[]⟩)]),(38,⟨[(0,.i),(5,.c (xo 38912)),(34,.i),(35,.c x64)],[(38912,.arr 5 false (.int .u8 .nil))]⟩,[(2,⟨[(5,.c (xo 38912))],[(38912,.arr 5 false (.int .u8 .nil))]⟩)])]⟩
def Le (N:Nat):Sig:=.of [Ae] [Aj,Ae] (fun a=>Oq N a)
theorem NG (N:Nat):Ad 202 (Le N):=Ah (Ag [] dS) kH Tryz.f202 N (Ac trivial)
def J3 (N:Nat):Sig:=.of [.box [(false,.bool)]] [AZ] (fun a=>EX N a)
theorem Ha (N:Nat):Ad 84 (J3 N):=Ah (Ag [] []) ⟨[],[]⟩ Tryz.f84 N (Ac trivial)
def QM (N:Nat):Sig:=.of [Aj,Ae] [AZ] (fun a=>P6 N a.1 a.2)
theorem Si (N:Nat):Ad 173 (QM N):=Ah (Ag [] []) ⟨[],[]⟩ Tryz.f173 N (Ac trivial)
def EK (N:Nat):Sig:=.of [aX] [AZ] (fun a=>DJ N a)
theorem F9 (N:Nat):Ad 66 (EK N):=Ah (Ag [] []) ⟨[],[]⟩ Tryz.f66 N (Ac trivial)
def merkle_b4_S (N:Nat):Sig:=.of [Ae] [Aj] (fun a=>merkle_b4 N a)
theorem MG (N:Nat):Ad 161 (merkle_b4_S N):=Ah (Ag [] []) ⟨[],[]⟩ Tryz.f161 N (Ac trivial)
def aB (N:Nat):Sig:=.of [Ae] [Aj] (fun a=>qL N a)
theorem o9 (N:Nat):Ad 178 (aB N):=Ah (Ag [] []) ⟨[],[]⟩ Tryz.f178 N (Ac trivial)
end
noncomputable section
def VE (N:Nat):Sig:=.of [Ae] [Aj] (fun a=>U9 N a)
theorem Tm (N:Nat):Ad 247 (VE N):=Ah (Ag [] []) ⟨[],[]⟩ Tryz.f247 N (Ac trivial)
def dQ (N:Nat):Sig:=.of [Ae] [Aj] (fun a=>U1 N a)
theorem aG (N:Nat):Ad 248 (dQ N):=Ah (Ag [] []) ⟨[],[]⟩ Tryz.f248 N (Ac trivial)
def Aa2:List (Nat×Nrm):=[(3,⟨[3],[],[],[],[]⟩),(14,⟨[3,10,11,12],[],[],[],[]⟩)]
def Acp:Lk:=⟨[],[(14,⟨[(3,.c (xo 35072)),(10,.i),(11,.i),(12,.c x64)],[(35072,.arr 5 false (.int .u8 .nil))]⟩,[(0,⟨[(3,.c (xo 35072))],[(35072,.arr 5 false (.int .u8 .nil))]⟩)])]⟩
def VF (N:Nat):Sig:=.of [Sq8] [Aj] (fun a=>QD N a)
theorem WC (N:Nat):Ad 232 (VF N):=Ah (Ag [] Aa2 [] [] [20]) Acp Tryz.f232 N (Ac trivial)
def KW (N:Nat):Sig:=.of [Aj,Ae] [Ae] (fun a=>FD N a.1 a.2)
theorem ND (N:Nat):Ad 174 (KW N):=Ah (Ag [] []) ⟨[],[]⟩ Tryz.f174 N (Ac trivial)
def LM (N:Nat):Sig:=.of [Ahc] [Aj] (fun a=>OE N a)
theorem Ti (N:Nat):Ad 121 (LM N):=Ah (Ag [] []) ⟨[],[]⟩ Tryz.f121 N (Ac trivial)
def sZ:List (Nat×Nrm):=[(3,⟨[4,5],[([4],3,(.int .i64 .nil),1004096)],[],[(1000000,1004096)],[]⟩),(26,⟨[4,5,14,15,16],[([4],3,(.int .i64 .nil),1000000)],[],[(40448,1000000)],[]⟩)]
def yM:Lk:=⟨[],[(26,⟨[(4,.c (xo 1000000)),(5,.c x64),(14,.c (xo 36352)),(15,.i),(16,.c x64)],[(36352,.arr 5 false (.int .u8 .nil)),(1000000,.arr 3 false (.int .i64 .nil))]⟩,[(0,⟨[(4,.c (xo 1004096)),(5,.c x64)],[(1004096,.arr 3 false (.int .i64 .nil))]⟩)])]⟩
def QC (N:Nat):Sig:=.of [Aj] [Abg,Ae] (fun a=>GI N a)
theorem RV (N:Nat):Ad 175 (QC N):=Ah (Ag [] sZ) yM Tryz.f175 N (Ac trivial)
def G6 (N:Nat):Sig:=.of [IU] [GY,Ae] (fun a=>I4 N a)
theorem GZ (N:Nat):Ad 105 (G6 N):=Ah (Ag [] []) ⟨[],[]⟩ Tryz.f105 N (Ac trivial)
def oD:List (Nat×Nrm):=[(3,⟨[3],[([3],3,(.int .i64 .nil),1016384)],[],[(1000000,1016384)],[]⟩),(7,⟨[0,3,4],[],[],[],[]⟩),(11,⟨[],[],[],[],[]⟩),(14,⟨[0,3,4],[([3],3,(.int .i64 .nil),1000000)],[],[(42240,1000000)],[]⟩),(30,⟨[0,3,4,5],[([3],3,(.int .i64 .nil),1004096)],[],[(1000000,1004096)],[]⟩)]
def sV:Lk:=⟨[],[(14,⟨[(0,.i),(3,.c (xo 1000000)),(4,.c x64)],[(1000000,.arr 3 false (.int .i64 .nil))]⟩,[(0,⟨[(3,.c (xo 1016384))],[(1016384,.arr 3 false (.int .i64 .nil))]⟩)]),(30,⟨[(0,.i),(3,.c (xo 1004096)),(4,.c x64),(5,.c x64)],[(1004096,.arr 3 false (.int .i64 .nil))]⟩,[(1,⟨[(0,.i),(3,.c (xo 42240)),(4,.c x64)],[(42240,.arr 3 false (.int .i64 .nil))]⟩),(2,⟨[],[]⟩)])]⟩
def WA (N:Nat):Sig:=.of [Aj] [Abg] (fun a=>aF N a)
theorem dO (N:Nat):Ad 245 (WA N):=Ah (Ag [] oD) sV Tryz.f245 N (Ac trivial)
end
noncomputable section
def Uw (N:Nat):Sig:=.of [GY] [Ae] (fun a=>KH N a)
theorem Zz (N:Nat):Ad 114 (Uw N):=Ah (Ag [] [] [] [] [] [6,10,11,16,17,22]) ⟨[],[]⟩ Tryz.f114 N (Ac trivial)
def o8:List (Nat×Nrm):=[(3,⟨[4],[],[],[],[]⟩),(22,⟨[4,12,13,14],[],[],[],[]⟩)]
def sO:Lk:=⟨[],[(22,⟨[(4,.c x64),(12,.c (xo 35840)),(13,.i),(14,.c x64)],[(35840,.arr 5 false (.int .u8 .nil))]⟩,[(0,⟨[(4,.c x64)],[]⟩)])]⟩
def Wy (N:Nat):Sig:=.of [Aj] [Ae,AZ] (fun a=>MS N a)
theorem dJ (N:Nat):Ad 115 (Wy N):=Ah (Ag [] o8) sO Tryz.f115 N (Ac trivial)
end
noncomputable section
def KX (N:Nat):Sig:=.of [Aj,Aj,Ae] [Ae] (fun a=>GR N a.1 a.2.1 a.2.2)
theorem NF (N:Nat):Ad 230 (KX N):=Ah (Ag [(174,KW N)] []) ⟨[],[]⟩ Tryz.f230 N (Ac ⟨ND N,trivial⟩)
def Dk (N:Nat):Sig:=.of [IU,Ae] [GY,Ae] (fun a=>Du N a.1 a.2)
theorem Dh (N:Nat):Ad 57 (Dk N):=Ah (Ag [(105,G6 N)] []) ⟨[],[]⟩ Tryz.f57 N (Ac ⟨GZ N,trivial⟩)
def sS:List (Nat×Nrm):=[(3,⟨[7],[([7],9,(.str .nil),1004096)],[],[(1000000,1004096)],[]⟩),(34,⟨[7,36,37,38],[([7],9,(.str .nil),1000000)],[],[(45056,1000000)],[]⟩)]
def yD:Lk:=⟨[],[(34,⟨[(7,.c (xo 1000000)),(36,.c (xo 41728)),(37,.i),(38,.c x64)],[(41728,.arr 3 false (.int .i64 .nil)),(1000000,.arr 9 false (.str .nil))]⟩,[(0,⟨[(7,.c (xo 1004096))],[(1004096,.arr 9 false (.str .nil))]⟩)])]⟩
def KP (N:Nat):Sig:=.of [Aj] [Aj,Ae] (fun a=>Pv N a)
theorem KQ (N:Nat):Ad 172 (KP N):=Ah (Ag [(245,WA N),(246,UH N),(194,MK N)] sS) yD Tryz.f172 N (Ac ⟨dO N,ZA N,OO N,trivial⟩)
def XJ (N:Nat):Sig:=.of [Ae,Aj] [Aef] (fun a=>gX N a.1 a.2)
theorem gY (N:Nat):Ad 238 (XJ N):=Ah (Ag [(236,Oa N)] []) ⟨[],[]⟩ Tryz.f238 N (Ac ⟨Qd N,trivial⟩)
def XK:List (Nat×Nrm):=[(29,⟨[8,9],[],[],[],[]⟩)]
def Zo:Lk:=⟨[(29,⟨[(8,.i),(9,.c x64)],[(0,.box [(xl Tq5)])]⟩)],[]⟩
def O7 (N:Nat):Sig:=.of [IU,Ae] [AZ,Ae] (fun a=>DR N a.1 a.2)
theorem Vg (N:Nat):Ad 290 (O7 N):=Ah (Ag [(109,Eg N),(288,MI N)] XK) Zo Tryz.f290 N (Ac ⟨Ec N,OG N,trivial⟩)
def Tn (N:Nat):Sig:=.of [Aj] [Aj,Ae,Ae] (fun a=>Y4 N a)
theorem UA (N:Nat):Ad 113 (Tn N):=Ah (Ag [(173,QM N)] []) ⟨[],[]⟩ Tryz.f113 N (Ac ⟨Si N,trivial⟩)
end
noncomputable section
def tX:List (Nat×Nrm):=[(3,⟨[3],[([3],5,(.int .u8 .nil),1004096)],[],[(1000000,1004096)],[]⟩),(18,⟨[0,3,4],[([3],5,(.int .u8 .nil),1000000)],[],[(41984,1000000)],[]⟩)]
def yU:Lk:=⟨[],[(18,⟨[(0,.i),(3,.c (xo 1000000)),(4,.c x64)],[(1000000,.arr 5 false (.int .u8 .nil))]⟩,[(0,⟨[(3,.c (xo 1004096))],[(1004096,.arr 5 false (.int .u8 .nil))]⟩)])]⟩
def Y9 (N:Nat):Sig:=.of [Aj] [Aj] (fun a=>Lm N a)
theorem kN (N:Nat):Ad 311 (Y9 N):=Ah (Ag [(336,WE N)] tX) yU Tryz.f311 N (Ac ⟨dV N,trivial⟩)
def Yt:List (Nat×Nrm):=[(3,⟨[],[],[],[],[]⟩),(18,⟨[8,9,10],[],[],[],[]⟩)]
def Zy:Lk:=⟨[],[(18,⟨[(8,.i),(9,.i),(10,.c x64)],[]⟩,[(0,⟨[],[]⟩)])]⟩
def Ja (N:Nat):Sig:=.of [.cell false (.sl 85 Tq2)] [AZ] (fun a=>E5 N a)
theorem KF (N:Nat):Ad 44 (Ja N):=Ah (Ag [(13,Fh N)] Yt) Zy Tryz.f44 N (Ac ⟨F6 N,trivial⟩)
def ZZ (N:Nat):Sig:=.of [Xg] [Ae] (fun a=>Ik N a)
theorem o6 (N:Nat):Ad 46 (ZZ N):=Ah (Ag [(16,CZ N)] []) ⟨[],[]⟩ Tryz.f46 N (Ac ⟨CV N,trivial⟩)
def Q3 (N:Nat):Sig:=.of [Xg] [Sq1] (fun a=>II N a)
theorem WX (N:Nat):Ad 157 (Q3 N):=Ah (Ag [(16,CZ N)] []) ⟨[],[]⟩ Tryz.f157 N (Ac ⟨CV N,trivial⟩)
end
noncomputable section
def AaI:List (Nat×Nrm):=[(3,⟨[0,1,6],[],[],[],[]⟩),(22,⟨[0,1,6,21,22,23],[],[],[],[]⟩),(77,⟨[1,9],[],[],[(45568,1008192),(47616,1008192),(49664,1008192),(52480,1008192)],[]⟩)]
def AcA:Lk:=⟨[(77,⟨[(1,.i),(9,.c (xo 1008192))],[(1008192,.arr 5 false (.int .u8 .nil))]⟩)],[(22,⟨[(0,.i),(1,.i),(6,.c x64),(21,.i),(22,.i),(23,.c x64)],[]⟩,[(0,⟨[(0,.i),(1,.i),(6,.c x64)],[]⟩)])]⟩
def EM (N:Nat):Sig:=.of [Ae,Sq8] [Aj,Ae] (fun a=>Dc N a.1 a.2)
theorem DY (N:Nat):Ad 136 (EM N):=Ah (Ag [(194,MK N)] AaI) AcA Tryz.f136 N (Ac ⟨OO N,trivial⟩)
def Y6:List (Nat×Nrm):=[(3,⟨[0,3],[],[],[],[]⟩),(11,⟨[5],[([5],5,(.int .u8 .nil),1012288)],[],[(1008192,1012288)],[]⟩),(14,⟨[0,3,4],[],[],[],[]⟩),(34,⟨[0,3,5,18,19],[([5],5,(.int .u8 .nil),1008192)],[],[(41216,1008192)],[]⟩)]
def Z5:Lk:=⟨[],[(14,⟨[(0,.i),(3,.c x64),(4,.c x64)],[]⟩,[(0,⟨[(0,.i),(3,.c x64)],[]⟩)]),(34,⟨[(0,.i),(3,.i),(5,.c (xo 1008192)),(18,.i),(19,.c x64)],[(1008192,.arr 5 false (.int .u8 .nil))]⟩,[(2,⟨[(5,.c (xo 1012288))],[(1012288,.arr 5 false (.int .u8 .nil))]⟩)])]⟩
def Je (N:Nat):Sig:=.of [Ae] [Aj] (fun a=>Lh N a)
theorem Lj (N:Nat):Ad 133 (Je N):=Ah (Ag [] Y6) Z5 Tryz.f133 N (Ac trivial)
def gW (N:Nat):Sig:=.of [Ae] [Ae] (fun a=>NW N a)
theorem XH (N:Nat):Ad 263 (gW N):=Ah (Ag [] []) ⟨[],[]⟩ Tryz.f263 N (Ac trivial)
def ZJ (N:Nat):Sig:=.of [Ae] [AZ] (fun a=>XI N a)
theorem mM (N:Nat):Ad 264 (ZJ N):=Ah (Ag [] []) ⟨[],[]⟩ Tryz.f264 N (Ac trivial)
def Aai:List (Nat×Nrm):=[(3,⟨[0,1,7],[],[],[(0,1004096),(1000000,1004096)],[]⟩),(11,⟨[0],[],[],[],[]⟩),(14,⟨[0,1,2,7,8],[],[],[(0,1000000),(37632,1000000)],[]⟩),(30,⟨[0,1,7,9],[],[],[],[]⟩)]
def Ab4:Lk:=⟨[],[(14,⟨[(0,.c (xo 1000000)),(1,.i),(2,.i),(7,.i),(8,.c x64)],[(1000000,.arr 5 false (.int .u8 .nil))]⟩,[(0,⟨[(0,.c (xo 1004096)),(1,.i),(7,.i)],[(1004096,.arr 5 false (.int .u8 .nil))]⟩)]),(30,⟨[(0,.c (xo 1004096)),(1,.c x64),(7,.i),(9,.c x64)],[(1004096,.arr 5 false (.int .u8 .nil))]⟩,[(2,⟨[(0,.c (xo 1004096))],[(1004096,.arr 5 false (.int .u8 .nil))]⟩)])]⟩
def gZ (N:Nat):Sig:=.of [AfZ,Ae,Ae] [AfZ] (fun a=>Vf N a.1 a.2.1 a.2.2)
theorem rU (N:Nat):Ad 140 (gZ N):=Ah (Ag [] Aai) Ab4 Tryz.f140 N (Ac trivial)
def wV:List (Nat×Nrm):=[(3,⟨[3],[],[],[],[]⟩),(14,⟨[3,9,10,11],[],[],[],[]⟩)]
def Aan:Lk:=⟨[],[(14,⟨[(3,.c (xo 34816)),(9,.i),(10,.i),(11,.c x64)],[(34816,.mp (.str .nil) (.int .i64 .nil))]⟩,[(0,⟨[(3,.c (xo 34816))],[(34816,.mp (.str .nil) (.int .i64 .nil))]⟩)])]⟩
def ZL (N:Nat):Sig:=.of [.cell false (.sl 183 Tq4)] [Ahb] (fun a=>qE N a)
theorem nH (N:Nat):Ad 198 (ZL N):=Ah (Ag [] wV) Aan Tryz.f198 N (Ac trivial)
def aU (N:Nat):Sig:=.of [Ae] [Ae] (fun a=>qZ N a)
theorem pJ (N:Nat):Ad 285 (aU N):=Ah (Ag [] []) ⟨[],[]⟩ Tryz.f285 N (Ac trivial)
def Acm:List (Nat×Nrm):=[(3,⟨[0,1,5],[],[],[],[]⟩),(10,⟨[0,1,5],[],[],[],[]⟩),(11,⟨[0,1],[],[],[(0,1012288),(1008192,1012288)],[]⟩),(22,⟨[0,1,6],[],[],[(0,1008192),(40704,1008192)],[]⟩)]
def AdC:Lk:=⟨[],[(10,⟨[(0,.c (xo 0)),(1,.i),(5,.c x64)],[(0,.arr 5 true (.int .u8 .nil))]⟩,[(0,⟨[(0,.c (xo 0)),(1,.i),(5,.c x64)],[(0,.arr 5 true (.int .u8 .nil))]⟩)]),(22,⟨[(0,.c (xo 1008192)),(1,.i),(6,.c x64)],[(1008192,.arr 5 true (.int .u8 .nil))]⟩,[(2,⟨[(0,.c (xo 1012288)),(1,.i)],[(1012288,.arr 5 true (.int .u8 .nil))]⟩)])]⟩
def qQ (N:Nat):Sig:=.of [Aga,Ae] [Aga] (fun a=>oG N a.1 a.2)
theorem yG (N:Nat):Ad 193 (qQ N):=Ah (Ag [] Acm) AdC Tryz.f193 N (Ac trivial)
end
noncomputable section
def sJ:List (Nat×Nrm):=[(3,⟨[],[],[],[],[]⟩),(18,⟨[32,33,34],[],[],[],[]⟩)]
def xM:Lk:=⟨[],[(18,⟨[(32,.c (xo 40960)),(33,.i),(34,.c x64)],[(40960,.arr 5 false (.int .u8 .nil))]⟩,[(0,⟨[],[]⟩)])]⟩
def Yi (N:Nat):Sig:=.of [Aj] [AZ] (fun a=>V3 N a)
theorem jE (N:Nat):Ad 272 (Yi N):=Ah (Ag [(274,Iq N),(306,Ol N),(307,Qv N),(209,Hm N)] sJ [] [] [] [9,13,14,18,19,26,27,30]) xM Tryz.f272 N (Ac ⟨JP N,Qw N,RN N,Jo N,trivial⟩)
def sF:List (Nat×Nrm):=[(3,⟨[],[],[],[],[]⟩),(26,⟨[3,4,5,6],[],[],[],[]⟩)]
def xJ:Lk:=⟨[],[(26,⟨[(3,.i),(4,.i),(5,.c xb),(6,.c x64)],[]⟩,[(0,⟨[],[]⟩)])]⟩
def Yg (N:Nat):Sig:=.of [Aj] [AZ] (fun a=>Vy N a)
theorem jA (N:Nat):Ad 215 (Yg N):=Ah (Ag [(275,Wu N),(276,jB N)] sF [] [] [] [32,34,35,38,42,43]) xJ Tryz.f215 N (Ac ⟨bY N,sG N,trivial⟩)
def XA (N:Nat):Sig:=.of [Ae] [AZ] (fun a=>gJ N a)
theorem gK (N:Nat):Ad 89 (XA N):=Ah (Ag [(20,Rt N)] []) ⟨[],[]⟩ Tryz.f89 N (Ac ⟨PT N,trivial⟩)
def BZ (N:Nat):Sig:=.of [.box [(false,.bool)],Ae,Sq8] [Aj] (fun a=>BC N a.1 a.2.1 a.2.2)
theorem BO (N:Nat):Ad 81 (BZ N):=Ah (Ag [(136,EM N),(78,CU N)] []) ⟨[],[]⟩ Tryz.f81 N (Ac ⟨DY N,CP N,trivial⟩)
def XL (N n:Nat):Sig:=.of [.cell false (.int .i64)] [.cell false (.int .i64)] (mQ N n)
theorem iC (N:Nat):UM Tryz.prog (XL N):=AaQ (pars:=[.cell false (.int .i64)]) (ress:=[.cell false (.int .i64)]) (l:=[(263,fun a=>NW N a)]) ⟨XH N,trivial⟩
def NZ (N:Nat):Sig:=.of [Ae,Ae] [Ae] (fun a=>GV N a.1 a.2)
theorem Qc (N:Nat):Ad 197 (NZ N):=Ah (Ag [(264,ZJ N)] []) ⟨[],[]⟩ Tryz.f197 N (Ac ⟨mM N,trivial⟩)
def AaH:List (Nat×Nrm):=[(3,⟨[0,2,5,6,7,8,9],[],[],[],[]⟩),(74,⟨[0,2,5,6,7,8,9,50,51,52],[],[],[],[]⟩),(101,⟨[0,2,5,6,7,8],[],[],[],[]⟩)]
def Ac9:Lk:=⟨[(101,⟨[(0,.i),(2,.c (.c (.ptr 33280 0))),(5,.c (.c (.ptr 34048 0))),(6,.i),(7,.c x64),(8,.c x64)],[(33280,.box [(.c (.int .i64 0)),(.c (.str ([]:Bs))),(.c (.str ([]:Bs)))]),(34048,.box [(.c (.int .i64 0)),(.c (.str ([]:Bs))),(.c (.str ([]:Bs)))])]⟩)],[(74,⟨[(0,.i),(2,.c (.c (.ptr 33280 0))),(5,.c (.c (.ptr 34048 0))),(6,.i),(7,.c x64),(8,.i),(9,.i),(50,.c (xo 45568)),(51,.i),(52,.c x64)],[(33280,.box [(.c (.int .i64 0)),(.c (.str ([]:Bs))),(.c (.str ([]:Bs)))]),(34048,.box [(.c (.int .i64 0)),(.c (.str ([]:Bs))),(.c (.str ([]:Bs)))]),(45568,.arr 5 false (.int .u8 .nil))]⟩,[(0,⟨[(0,.i),(2,.c (.c (.ptr 33280 0))),(5,.c (.c (.ptr 34048 0))),(6,.i),(7,.c x64),(8,.i),(9,.i)],[(33280,.box [(.c (.int .i64 0)),(.c (.str ([]:Bs))),(.c (.str ([]:Bs)))]),(34048,.box [(.c (.int .i64 0)),(.c (.str ([]:Bs))),(.c (.str ([]:Bs)))])]⟩)])]⟩
def PG (N:Nat):Sig:=.of [Aj] [GY,Aj,Ae] (fun a=>VV N a)
theorem Ov (N:Nat):Ad 233 (PG N):=Ah (Ag [(285,aU N)] AaH) Ac9 Tryz.f233 N (Ac ⟨pJ N,trivial⟩)
def UB (N:Nat):Sig:=.of [Aj,Ae] [Aj,Ae] (fun a=>Y5 N a.1 a.2)
theorem Z4 (N:Nat):Ad 147 (UB N):=Ah (Ag [(173,QM N)] []) ⟨[],[]⟩ Tryz.f147 N (Ac ⟨Si N,trivial⟩)
end
noncomputable section
def G7 (N:Nat):Sig:=.of [.box [(false,.bool)],Ae] [Aj] (fun a=>Gv N a.1 a.2)
theorem Hf (N:Nat):Ad 76 (G7 N):=Ah (Ag [(133,Je N),(81,BZ N)] []) ⟨[],[]⟩ Tryz.f76 N (Ac ⟨Lj N,BO N,trivial⟩)
def NY (N:Nat):Sig:=.of [Ae] [Ae] (fun a=>MO N a)
theorem Qb (N:Nat):Ad 196 (NY N):=Ah (Ag [] [] [] [(7,XL N),(12,XL N)]) ⟨[],[]⟩ Tryz.f196 N (Ac trivial trivial ⟨iC N,iC N,trivial⟩)
def JQ (N:Nat):Sig:=.of [Aj] [GY,Ae] (fun a=>PM N a)
theorem Ir (N:Nat):Ad 162 (JQ N):=Ah (Ag [(233,PG N)] []) ⟨[],[]⟩ Tryz.f162 N (Ac ⟨Ov N,trivial⟩)
def uK:List (Nat×Nrm):=[(3,⟨[],[],[],[],[]⟩),(18,⟨[1,5],[],[],[],[]⟩)]
def zM:Lk:=⟨[],[(18,⟨[(1,.i),(5,.c xs)],[]⟩,[(0,⟨[],[]⟩)])]⟩
def Ox (N n:Nat):Sig:=.of [GY,.cell false (.int .i64)] [.cell false (.int .i64)] (fun a=>VW N n a.1 a.2)
theorem QV (N:Nat): ∀ n,Spec Tryz.prog 265 (Ox N n)
  | 0=>qW (C:=ctx Tryz.prog [] []) (fn:=Tryz.f265) (Ac (gs:=[]) trivial) (by kernel_rfl) (by kernel_rfl)
  | n+1=>TA (C:=ctx Tryz.prog ((265,Ox N n)::[(233,PG N)]) uK) (L:=zM) (fn:=Tryz.f265) (N:=N) (Ac ⟨QV N n,⟨Ov N,trivial⟩⟩)
def YR (N:Nat):Sig:=Ox N N
theorem lF (N:Nat):Spec Tryz.prog 265 (YR N):=QV N N
def sU:List (Nat×Nrm):=[(3,⟨[5],[],[],[(37888,1004096),(1000000,1004096)],[]⟩),(26,⟨[5,22,23,24],[],[],[(37888,1000000),(40448,1000000)],[]⟩)]
def yE:Lk:=⟨[],[(26,⟨[(5,.c (xo 1000000)),(22,.i),(23,.i),(24,.c x64)],[(1000000,.arr 5 true (.int .u8 .nil))]⟩,[(0,⟨[(5,.c (xo 1004096))],[(1004096,.arr 5 true (.int .u8 .nil))]⟩)])]⟩
def KR (N:Nat):Sig:=.of [Aj] [Aj,Ae] (fun a=>Px N a)
theorem KT (N:Nat):Ad 135 (KR N):=Ah (Ag [(192,VD N),(193,qQ N)] sU) yE Tryz.f135 N (Ac ⟨W9 N,yG N,trivial⟩)
def O8 (N:Nat):Sig:=.of [.box [(false,.bool)],Ae,AZ] [Aj] (fun a=>Hq N a.1 a.2.1 a.2.2)
theorem Vh (N:Nat):Ad 203 (O8 N):=Ah (Ag [(200,Jd N),(81,BZ N)] []) ⟨[],[]⟩ Tryz.f203 N (Ac ⟨Ld N,BO N,trivial⟩)
def L6 (N:Nat):Sig:=.of [aX] [Ae] (fun a=>Io N a)
theorem Rk (N:Nat):Ad 101 (L6 N):=Ah (Ag [(66,EK N),(99,merkle_Tree_Leaves_S N)] []) ⟨[],[]⟩ Tryz.f101 N (Ac ⟨F9 N,F8 N,trivial⟩)
def AaG:List (Nat×Nrm):=[(3,⟨[4],[([4],98,Tq5,1004096)],[],[(1000000,1004096)],[]⟩),(10,⟨[0,4],[([4],98,Tq5,1000000)],[],[(38400,1000000)],[]⟩)]
def Ac8:Lk:=⟨[],[(10,⟨[(0,.c xs),(4,.c (xo 1000000))],[(1000000,.arr 98 false Tq5)]⟩,[(0,⟨[(4,.c (xo 1004096))],[(1004096,.arr 98 false Tq5)]⟩)])]⟩
def EL (N:Nat):Sig:=.of [Aj] [.cell false (.sl 98 Tq5),Ae] (fun a=>GK N a)
theorem DX (N:Nat):Ad 163 (EL N):=Ah (Ag [(233,PG N)] AaG) Ac8 Tryz.f163 N (Ac ⟨Ov N,trivial⟩)
end
noncomputable section
def PY (N:Nat):Sig:=.of [IU] [Ae,Ae] (fun a=>Va N a)
theorem Ry (N:Nat):Ad 106 (PY N):=Ah (Ag [(57,Dk N),(164,MJ N)] []) ⟨[],[]⟩ Tryz.f106 N (Ac ⟨Dh N,OH N,trivial⟩)
def tK:List (Nat×Nrm):=[(3,⟨[8],[],[],[],[]⟩),(46,⟨[4,8,35,36],[],[],[],[]⟩)]
def yO:Lk:=⟨[],[(46,⟨[(4,.i),(8,.c x64),(35,.i),(36,.c x64)],[]⟩,[(0,⟨[(8,.c x64)],[]⟩)])]⟩
def QK (N:Nat):Sig:=.of [Aj] [Ae,Ae] (fun a=>P5 N a)
theorem RZ (N:Nat):Ad 291 (QK N):=Ah (Ag [(113,Tn N),(315,kJ N)] tK) yO Tryz.f291 N (Ac ⟨UA N,tN N,trivial⟩)
def Rz (N:Nat):Sig:=.of [IU] [Aj,Ae] (fun a=>Wi N a)
theorem XB (N:Nat):Ad 60 (Rz N):=Ah (Ag [(57,Dk N),(113,Tn N)] []) ⟨[],[]⟩ Tryz.f60 N (Ac ⟨Dh N,UA N,trivial⟩)
def OI (N:Nat):Sig:=.of [Aj,Aj] [AZ] (fun a=>FU N a.1 a.2)
theorem VK (N:Nat):Ad 281 (OI N):=Ah (Ag [(311,Y9 N)] []) ⟨[],[]⟩ Tryz.f281 N (Ac ⟨kN N,trivial⟩)
end
noncomputable section
def WW:List (Nat×Nrm):=[(3,⟨[],[],[],[],[]⟩),(18,⟨[8,9,10],[],[],[],[]⟩)]
def Yu:Lk:=⟨[],[(18,⟨[(8,.i),(9,.i),(10,.c x64)],[]⟩,[(0,⟨[],[]⟩)])]⟩
def Nz (N:Nat):Sig:=.of [.cell false (.sl 134 Tq3)] [AZ] (fun a=>Fj N a)
theorem Uu (N:Nat):Ad 45 (Nz N):=Ah (Ag [(44,Ja N),(13,Fh N)] WW) Yu Tryz.f45 N (Ac ⟨KF N,F6 N,trivial⟩)
def xX:List (Nat×Nrm):=[(3,⟨[2,3],[],[],[(33637,1012288),(1000000,1012288)],[]⟩),(11,⟨[0,2,3,4,5],[([5],73,Tq0,1008192)],[],[(33637,1008208),(1004096,1008192),(1004112,1008208)],[]⟩),(14,⟨[0,2,3,4],[],[],[(33637,1000000),(44288,1000000)],[]⟩),(30,⟨[0,2,3,4,5,6],[([5],73,Tq0,1004096)],[],[(33637,1004112),(43008,1004096),(1000000,1004112)],[]⟩)]
def Aax:Lk:=⟨[],[(14,⟨[(0,.c (.c (.ptr 0 0))),(2,.c (.c (.ptr 33280 0))),(3,.c (.c (.ptr 33536 0))),(4,.c x64)],[(0,.box [(xl (.int .i64 .nil)),x64]),(33280,.box [(xo 33281)]),(33281,.AV 74 false (.sl 73 Tq0 .nil)),(33536,.box [(xo 1000000)]),(1000000,.arr 74 false (.sl 73 Tq0 .nil))]⟩,[(0,⟨[(2,.c (.c (.ptr 33280 0))),(3,.c (.c (.ptr 33536 0)))],[(0,.box [(xl (.int .i64 .nil)),x64]),(33280,.box [(xo 33281)]),(33281,.AV 74 false (.sl 73 Tq0 .nil)),(33536,.box [(xo 1012288)]),(1012288,.arr 74 false (.sl 73 Tq0 .nil))]⟩)]),(30,⟨[(0,.c (.c (.ptr 0 0))),(2,.c (.c (.ptr 33280 0))),(3,.c (.c (.ptr 33536 0))),(4,.i),(5,.c (xo 1004096)),(6,.c x64)],[(0,.box [(xl (.int .i64 .nil)),x64]),(33280,.box [(xo 33281)]),(33281,.AV 74 false (.sl 73 Tq0 .nil)),(33536,.box [(xo 1004112)]),(1004096,.arr 73 false Tq0),(1004112,.arr 74 false (.sl 73 Tq0 .nil))]⟩,[(2,⟨[(0,.c (.c (.ptr 0 0))),(2,.c (.c (.ptr 33280 0))),(3,.c (.c (.ptr 33536 0))),(4,.i),(5,.c (xo 1008192))],[(0,.box [(xl (.int .i64 .nil)),x64]),(33280,.box [(xo 33281)]),(33281,.AV 74 false (.sl 73 Tq0 .nil)),(33536,.box [(xo 1008208)]),(1008192,.arr 73 false Tq0),(1008208,.arr 74 false (.sl 73 Tq0 .nil))]⟩)])]⟩
def ZX (N:Nat):Sig:=.of [Xg] [Sq0] (fun a=>RQ N a)
theorem nZ (N:Nat):Ad 96 (ZX N):=Ah (Ag [(16,CZ N),(157,Q3 N)] xX) Aax Tryz.f96 N (Ac ⟨CV N,WX N,trivial⟩)
end
noncomputable section
def bP:List (Nat×Nrm):=[(89,⟨[2,4,5,6],[],[],[],[]⟩)]
def iH:Lk:=⟨[(89,⟨[(2,.c (.c (.ptr 33280 0))),(4,.c (.c (.ptr 33792 0))),(5,.c (.c (.ptr 34048 0))),(6,.c (xl Tq5))],[(33280,.box [(.c (.str ([]:Bs))),(.c (.bool false)),(.c (.str ([]:Bs)))]),(33792,.box [(.c (.str ([]:Bs))),(.c (.bool false)),(.c (.str ([]:Bs)))]),(34048,.box [xs,xb,(.c (.str ([]:Bs)))])]⟩)],[]⟩
def RH (N:Nat):Sig:=.of [GY] [Abf,Ae] (fun a=>Wp N a)
theorem XQ (N:Nat):Ad 240 (RH N):=Ah (Ag [(163,EL N),(172,KP N),(288,MI N)] bP) iH Tryz.f240 N (Ac ⟨DX N,KQ N,OG N,trivial⟩)
def yX:List (Nat×Nrm):=[(3,⟨[],[],[],[],[]⟩),(10,⟨[3,7,8,9],[],[],[],[]⟩)]
def Aa7:Lk:=⟨[],[(10,⟨[(3,.c (.c (.ptr 33536 0))),(7,.i),(8,.i),(9,.c x64)],[(33536,.box [xs,x64,xs])]⟩,[(0,⟨[],[]⟩)])]⟩
def aN (N:Nat):Sig:=.of [.cell false (.sl 73 Tq0),Sq1] [AZ] (fun a=>JM N a.1 a.2)
theorem oP (N:Nat):Ad 228 (aN N):=Ah (Ag [(281,OI N)] yX) Aa7 Tryz.f228 N (Ac ⟨VK N,trivial⟩)
def Zw:List (Nat×Nrm):=[(3,⟨[],[],[],[],[]⟩),(18,⟨[35,36,37],[],[],[],[]⟩)]
def dD:Lk:=⟨[],[(18,⟨[(35,.i),(36,.i),(37,.c x64)],[]⟩,[(0,⟨[],[]⟩)])]⟩
def Qz (N:Nat):Sig:=.of [Sq2] [AZ] (fun a=>IG N a)
theorem WV (N:Nat):Ad 12 (Qz N):=Ah (Ag [(13,Fh N),(44,Ja N),(45,Nz N)] Zw [] [] [] [9,14,15,21,22,27,28,33]) dD Tryz.f12 N (Ac ⟨F6 N,KF N,Uu N,trivial⟩)
def MC (N:Nat):Sig:=.of [Xg] [Abe] (fun a=>Gx N a)
theorem OD (N:Nat):Ad 47 (MC N):=Ah (Ag [(16,CZ N),(96,ZX N)] []) ⟨[],[]⟩ Tryz.f47 N (Ac ⟨CV N,nZ N,trivial⟩)
end
noncomputable section
def bQ:List (Nat×Nrm):=[(49,⟨[1,6],[],[],[],[]⟩)]
def iI:Lk:=⟨[(49,⟨[(1,.c (.c (.ptr 33024 0))),(6,.c (xo 36864))],[(33024,.box [xs,xb,xs]),(36864,.arr 9 false (.str .nil))]⟩)],[]⟩
def RI (N:Nat):Sig:=.of [Abf] [Aj,Ae] (fun a=>Wq N a)
theorem XR (N:Nat):Ad 142 (RI N):=Ah (Ag [(135,KR N),(136,EM N),(200,Jd N)] bQ) iI Tryz.f142 N (Ac ⟨KT N,DY N,Ld N,trivial⟩)
def IQ (N:Nat):Sig:=.of [Sq1] [Aj,Ae] (fun a=>JG N a)
theorem Oe (N:Nat):Ad 137 (IQ N):=Ah (Ag [(135,KR N),(136,EM N)] []) ⟨[],[]⟩ Tryz.f137 N (Ac ⟨KT N,DY N,trivial⟩)
def Hl (N:Nat):Sig:=.of [] [Aj] (fun _=>IZ N)
theorem Jm (N:Nat):Ad 77 (Hl N):=Ah (Ag [(135,KR N),(136,EM N)] []) ⟨[],[]⟩ Tryz.f77 N (Ac ⟨KT N,DY N,trivial⟩)
def DW (N:Nat):Sig:=.of [Aj,Ae] [GY,Ae] (fun a=>Gt N a.1 a.2)
theorem Gu (N:Nat):Ad 103 (DW N):=Ah (Ag [(162,JQ N)] []) ⟨[],[]⟩ Tryz.f103 N (Ac ⟨Ir N,trivial⟩)
def EW (N:Nat):Alt:=.of [.cell false .str] [IU,.cell false (.int .i64)] [.cell false .ptr,.cell false (.int .i64)] (fun a=>Ia N a)
theorem G5 (N:Nat):Spec Tryz.prog 104 (EW N).1/\Spec Tryz.prog 104 (EW N).2.1:=Iu (C:=ctx Tryz.prog [(163,EL N)] []) (L:=⟨[],[]⟩) (fn:=Tryz.f104) (N:=N) (Ac ⟨DX N,trivial⟩) (by kernel_rfl) (by kernel_rfl) (fun a=>by kernel_rfl)
def Ij (N:Nat):Sig:=.of [GY] [Ae] (fun a=>Jn N a)
theorem Nv (N:Nat):Ad 112 (Ij N):=Ah (Ag [(163,EL N),(172,KP N)] []) ⟨[],[]⟩ Tryz.f112 N (Ac ⟨DX N,KQ N,trivial⟩)
def Qk:List (Nat×Nrm):=[(85,⟨[2,4,5,7],[],[],[],[]⟩)]
def Ri:Lk:=⟨[(85,⟨[(2,.c (.c (.ptr 33280 0))),(4,.c (.c (.ptr 33792 0))),(5,.i),(7,.i)],[(33280,.box [(.c (.str ([]:Bs))),(.c (.int .i64 0)),(.c (.str ([]:Bs)))]),(33792,.box [(.c (.str ([]:Bs))),(.c (.int .i64 0)),(.c (.str ([]:Bs)))])]⟩)],[]⟩
def IP (N:Nat):Sig:=.of [GY] [Sq1,Ae] (fun a=>JF N a)
theorem Ob (N:Nat):Ad 235 (IP N):=Ah (Ag [(163,EL N),(172,KP N)] Qk) Ri Tryz.f235 N (Ac ⟨DX N,KQ N,trivial⟩)
def gV:List (Nat×Nrm):=[(3,⟨[1,4],[],[],[],[]⟩),(30,⟨[1,4,5],[],[],[],[]⟩)]
def mJ:Lk:=⟨[],[(30,⟨[(1,.c (.c (.ptr 33024 0))),(4,.c x64),(5,.c x64)],[(33024,.box [x64,x64,x64,x64,x64,x64])]⟩,[(0,⟨[(1,.c (.c (.ptr 33024 0))),(4,.c x64)],[(33024,.box [x64,x64,x64,x64,x64,x64])]⟩)])]⟩
def Ue (N:Nat):Sig:=.of [Aef] [Ae,Ae] (fun a=>XG N a)
theorem Zn (N:Nat):Ad 237 (Ue N):=Ah (Ag [(197,NZ N),(196,NY N)] gV [] [] [] [9,13,14,18,19,23,24,28,29,38,42,46,47,51,52,56,57,61,62,66]) mJ Tryz.f237 N (Ac ⟨Qc N,Qb N,trivial⟩)
end
noncomputable section
def wJ:List (Nat×Nrm):=[(3,⟨[],[],[],[],[]⟩),(10,⟨[3,7,8,9],[],[],[],[]⟩)]
def Aak:Lk:=⟨[],[(10,⟨[(3,.c (.c (.ptr 33536 0))),(7,.i),(8,.i),(9,.c x64)],[(33536,.box [xs,x64,xs])]⟩,[(0,⟨[],[]⟩)])]⟩
def ZK (N:Nat):Sig:=.of [.cell false (.sl 73 Tq0),Sq1] [AZ] (fun a=>JH N a.1 a.2)
theorem mZ (N:Nat):Ad 277 (ZK N):=Ah (Ag [(310,YO N)] wJ) Aak Tryz.f277 N (Ac ⟨kY N,trivial⟩)
def Vt:List (Nat×Nrm):=[(3,⟨[0,4],[],[(none,4,(.int .u8 .nil))],[],[]⟩),(13,⟨[0,1],[],[],[],[]⟩),(22,⟨[0,4],[],[(none,4,(.int .u8 .nil))],[],[41728]⟩)]
def WT:Lk:=⟨[(13,⟨[(0,.c (.c (.ptr 0 0))),(1,.i)],[(0,.box [(xi .u32),(xi .u32),(xi .u32),(xi .u32),(xi .u32),(xi .u32),(xi .u32),(xi .u32),(xl (.int .u8 .nil)),x64])]⟩)],[(22,⟨[(0,.c (.c (.ptr 0 0))),(4,.c (xl (.int .u8 .nil)))],[(0,.box [(xi .u32),(xi .u32),(xi .u32),(xi .u32),(xi .u32),(xi .u32),(xi .u32),(xi .u32),(xl (.int .u8 .nil)),x64])]⟩,[(0,⟨[(0,.c (.c (.ptr 0 0))),(4,.c (xl (.int .u8 .nil)))],[(0,.box [(xi .u32),(xi .u32),(xi .u32),(xi .u32),(xi .u32),(xi .u32),(xi .u32),(xi .u32),(xl (.int .u8 .nil)),x64])]⟩)])]⟩
def LK (N:Nat):Sig:=.of [Sq4,Aj] [] (fun a=>Gm N a.1 a.2)
theorem SV (N:Nat):Ad 283 (LK N):=Ah (Ag [(312,Md N),(313,Ih N)] Vt) WT Tryz.f283 N (Ac ⟨OC N,JK N,trivial⟩)
def Yc:List (Nat×Nrm):=[(3,⟨[3,4,5],[],[],[(41984,1008192),(1004096,1008192)],[1008192]⟩),(11,⟨[3,4],[],[],[],[]⟩),(19,⟨[3],[],[],[],[]⟩),(27,⟨[7],[],[],[],[]⟩),(29,⟨[3,4,5],[([4],5,(.int .u8 .nil),1000000)],[],[(41216,1000000)],[]⟩),(34,⟨[3,4,5],[],[],[(41984,1004096),(43776,1004096)],[]⟩),(46,⟨[3,4,5,6],[],[],[(47616,1008192)],[]⟩),(58,⟨[3,4],[],[(none,4,(.int .u8 .nil))],[],[]⟩),(78,⟨[7,68,69],[([7],5,(.int .u8 .nil),1028672)],[],[(54528,1028672)],[]⟩)]
def Zr:Lk:=⟨[(29,⟨[(3,.c (.c (.Bc 33536 0 0))),(4,.c (xo 1000000)),(5,.c x64)],[(0,.box [(xi .u32),(xi .u32),(xi .u32),(xi .u32),(xi .u32),(xi .u32),(xi .u32),(xi .u32),(xl (.int .u8 .nil)),x64]),(33536,.arr 305 false (.int .u32 .nil)),(1000000,.arr 5 false (.int .u8 .nil))]⟩)],[(34,⟨[(3,.c (.c (.Bc 33536 0 0))),(4,.c (xo 1004096)),(5,.i)],[(0,.box [(xi .u32),(xi .u32),(xi .u32),(xi .u32),(xi .u32),(xi .u32),(xi .u32),(xi .u32),(xl (.int .u8 .nil)),x64]),(33536,.arr 305 false (.int .u32 .nil)),(1004096,.arr 5 false (.int .u8 .nil))]⟩,[(0,⟨[(3,.c (.c (.Bc 33536 0 0))),(4,.c (xo 1008192)),(5,.i)],[(0,.box [(xi .u32),(xi .u32),(xi .u32),(xi .u32),(xi .u32),(xi .u32),(xi .u32),(xi .u32),(xl (.int .u8 .nil)),x64]),(33536,.arr 305 false (.int .u32 .nil)),(1008192,.arr 5 true (.int .u8 .nil))]⟩)]),(46,⟨[(3,.c (.c (.Bc 33536 0 0))),(4,.c (xo 1008192)),(5,.i),(6,.c x64)],[(0,.box [(xi .u32),(xi .u32),(xi .u32),(xi .u32),(xi .u32),(xi .u32),(xi .u32),(xi .u32),(xl (.int .u8 .nil)),x64]),(33536,.arr 305 false (.int .u32 .nil)),(1008192,.arr 5 true (.int .u8 .nil))]⟩,[(2,⟨[(3,.c (.c (.Bc 33536 0 0))),(4,.c (xo 1008192))],[(0,.box [(xi .u32),(xi .u32),(xi .u32),(xi .u32),(xi .u32),(xi .u32),(xi .u32),(xi .u32),(xl (.int .u8 .nil)),x64]),(33536,.arr 305 false (.int .u32 .nil)),(1008192,.arr 5 true (.int .u8 .nil))]⟩)]),(58,⟨[(3,.c (.c (.Bc 33536 0 0))),(4,.c (xl (.int .u8 .nil)))],[(0,.box [(xi .u32),(xi .u32),(xi .u32),(xi .u32),(xi .u32),(xi .u32),(xi .u32),(xi .u32),(xl (.int .u8 .nil)),x64]),(33536,.arr 305 false (.int .u32 .nil))]⟩,[(4,⟨[(3,.c (.c (.Bc 33536 0 0)))],[(0,.box [(xi .u32),(xi .u32),(xi .u32),(xi .u32),(xi .u32),(xi .u32),(xi .u32),(xi .u32),(xl (.int .u8 .nil)),x64]),(33536,.arr 305 false (.int .u32 .nil))]⟩)]),(78,⟨[(7,.c (xo 1028672)),(68,.i),(69,.c x64)],[(0,.box [(xi .u32),(xi .u32),(xi .u32),(xi .u32),(xi .u32),(xi .u32),(xi .u32),(xi .u32),(xl (.int .u8 .nil)),x64]),(1028672,.arr 5 false (.int .u8 .nil))]⟩,[(6,⟨[(7,.c (xo 1028672))],[(0,.box [(xi .u32),(xi .u32),(xi .u32),(xi .u32),(xi .u32),(xi .u32),(xi .u32),(xi .u32),(xl (.int .u8 .nil)),x64]),(1028672,.arr 5 false (.int .u8 .nil))]⟩)])]⟩
def OB (N:Nat):Sig:=.of [Sq4] [Aj] (fun a=>Hu N a)
theorem Vs (N:Nat):Ad 284 (OB N):=Ah (Ag [(312,Md N),(313,Ih N)] Yc) Zr Tryz.f284 N (Ac ⟨OC N,JK N,trivial⟩)
def ZY (N:Nat):Sig:=.of [Ae] [Aj] (fun a=>Ny N a)
theorem o5 (N:Nat):Ad 23 (ZY N):=Ah (Ag [(54,kP N),(53,aJ N)] []) ⟨[],[]⟩ Tryz.f23 N (Ac ⟨uA N,oN N,trivial⟩)
def Tj (N:Nat):Sig:=.of [Aj] [AZ] (fun a=>Y1 N a)
theorem U0 (N:Nat):Ad 148 (Tj N):=Ah (Ag [(192,VD N)] []) ⟨[],[]⟩ Tryz.f148 N (Ac ⟨W9 N,trivial⟩)
def qC (N n:Nat):Sig:=.of [.cell false (.int .u8)] [.cell false .bool] (AaP N n)
theorem Ab7 (N:Nat):UM Tryz.prog (qC N):=AaQ (pars:=[.cell false (.int .u8)]) (ress:=[.cell false .bool]) (l:=[(207,fun a=>QS N a),(210,fun a=>QT N a)]) ⟨ZB N,ZC N,trivial⟩
def Aat:List (Nat×Nrm):=[(3,⟨[],[],[],[],[]⟩),(18,⟨[9,10,11],[],[],[],[]⟩)]
def AbO:Lk:=⟨[],[(18,⟨[(9,.i),(10,.i),(11,.c x64)],[]⟩,[(0,⟨[],[]⟩)])]⟩
def KD (N:Nat):Sig:=.of [Aj] [AZ] (fun a=>Gi N a)
theorem Jr (N:Nat):Ad 269 (KD N):=Ah (Ag [(256,Hy N),(303,Yh N)] Aat) AbO Tryz.f269 N (Ac ⟨NJ N,jD N,trivial⟩)
def D8 (N:Nat):Sig:=.of [.box [(false,.bool)],Sq8] [Aj] (fun a=>CS N a.1 a.2)
theorem Dw (N:Nat):Ad 75 (D8 N):=Ah (Ag [(81,BZ N)] []) ⟨[],[]⟩ Tryz.f75 N (Ac ⟨BO N,trivial⟩)
end
noncomputable section
def rW:List (Nat×Nrm):=[(3,⟨[],[],[],[],[]⟩),(18,⟨[0,1,12,13],[],[],[],[]⟩)]
def wK:Lk:=⟨[],[(18,⟨[(0,.i),(1,.i),(12,.i),(13,.c x64)],[]⟩,[(0,⟨[],[]⟩)])]⟩
def XM (N:Nat):Sig:=.of [.cell false (.sl 73 Tq0),.cell false (.sl 73 Tq0)] [AZ] (fun a=>Pj N a.1 a.2)
theorem iG (N:Nat):Ad 217 (XM N):=Ah (Ag [(277,ZK N)] rW) wK Tryz.f217 N (Ac ⟨mZ N,trivial⟩)
def Aas:List (Nat×Nrm):=[(3,⟨[3],[],[],[],[]⟩),(14,⟨[3,7,8,9],[],[],[],[]⟩)]
def AbN:Lk:=⟨[],[(14,⟨[(3,.c (.c (.ptr 34304 0))),(7,.i),(8,.i),(9,.c x64)],[(34304,.box [(xi .u32),(xi .u32),(xi .u32),(xi .u32),(xi .u32),(xi .u32),(xi .u32),(xi .u32),(xl (.int .u8 .nil)),x64])]⟩,[(0,⟨[(3,.c (.c (.ptr 34304 0)))],[(34304,.box [(xi .u32),(xi .u32),(xi .u32),(xi .u32),(xi .u32),(xi .u32),(xi .u32),(xi .u32),(xl (.int .u8 .nil)),x64])]⟩)])]⟩
def iY (N:Nat):Sig:=.of [Sq8] [Aj] (fun a=>Vu N a)
theorem sD (N:Nat):Ad 229 (iY N):=Ah (Ag [(282,Yb N),(283,LK N),(284,OB N)] Aas) AbN Tryz.f229 N (Ac ⟨iW N,SV N,Vs N,trivial⟩)
def AaF:List (Nat×Nrm):=[(3,⟨[],[],[],[],[]⟩),(10,⟨[0,1,5],[],[],[],[]⟩)]
def Ac7:Lk:=⟨[],[(10,⟨[(0,.i),(1,.i),(5,.c x64)],[]⟩,[(0,⟨[],[]⟩)])]⟩
def l7 (N:Nat):Sig:=.of [Aj,.cell false .fn] [AZ] (fun a=>eG N a.1 a.2)
theorem uH (N:Nat):Ad 206 (l7 N):=Ah (Ag [] AaF [] [(12,qC N)]) Ac7 Tryz.f206 N (Ac trivial trivial ⟨Ab7 N,trivial⟩)
def SX (N:Nat):Sig:=.of [Aj] [AZ] (fun a=>Nu N a)
theorem Uo (N:Nat):Ad 212 (SX N):=Ah (Ag [(271,WI N),(272,Yi N),(269,KD N)] [] [] [] [] [13,17,18,21,22,25]) ⟨[],[]⟩ Tryz.f212 N (Ac ⟨dY N,jE N,Jr N,trivial⟩)
def ZT (N:Nat):Sig:=.of [Aj] [AZ] (fun a=>Ye N a)
theorem nP (N:Nat):Ad 213 (ZT N):=Ah (Ag [(269,KD N)] []) ⟨[],[]⟩ Tryz.f213 N (Ac ⟨Jr N,trivial⟩)
def Ur (N:Nat):Sig:=.of [Aj] [AZ] (fun a=>Qu N a)
theorem Zu (N:Nat):Ad 214 (Ur N):=Ah (Ag [(273,LQ N),(269,KD N),(274,Iq N)] []) ⟨[],[]⟩ Tryz.f214 N (Ac ⟨TC N,Jr N,JP N,trivial⟩)
def rM:List (Nat×Nrm):=[(3,⟨[2,4,5,6],[],[],[],[]⟩),(11,⟨[2,4,5,6,7],[],[],[],[]⟩),(22,⟨[2,4,5,6],[],[],[],[]⟩),(38,⟨[2,4,5,6,7],[],[],[],[]⟩)]
def wH:Lk:=⟨[],[(22,⟨[(2,.c (.c (.ptr 33280 0))),(4,.i),(5,.i),(6,.c x64)],[(33280,.box [(.c (.int .i64 0)),(.c (.int .i64 0)),(.c (.int .i64 0)),(.c (.int .i64 0)),(.c (.int .i64 0)),(.c (.int .i64 0))])]⟩,[(0,⟨[(2,.c (.c (.ptr 33280 0))),(4,.i),(5,.i),(6,.c x64)],[(33280,.box [(.c (.int .i64 0)),(.c (.int .i64 0)),(.c (.int .i64 0)),(.c (.int .i64 0)),(.c (.int .i64 0)),(.c (.int .i64 0))])]⟩)]),(38,⟨[(2,.c (.c (.ptr 33280 0))),(4,.c x64),(5,.i),(6,.i),(7,.c x64)],[(33280,.box [(.c (.int .i64 0)),(.c (.int .i64 0)),(.c (.int .i64 0)),(.c (.int .i64 0)),(.c (.int .i64 0)),(.c (.int .i64 0))])]⟩,[(2,⟨[(2,.c (.c (.ptr 33280 0))),(4,.c x64),(5,.i),(6,.i),(7,.c x64)],[(33280,.box [(.c (.int .i64 0)),(.c (.int .i64 0)),(.c (.int .i64 0)),(.c (.int .i64 0)),(.c (.int .i64 0)),(.c (.int .i64 0))])]⟩)])]⟩
def XF (N:Nat):Sig:=.of [Ae] [Aef,Ae] (fun a=>gQ N a)
theorem gU (N:Nat):Ad 139 (XF N):=Ah (Ag [(196,NY N),(197,NZ N)] rM) wH Tryz.f139 N (Ac ⟨Qb N,Qc N,trivial⟩)
def aT (N:Nat):Sig:=.of [Aj] [Ae] (fun a=>qY N a)
theorem pG (N:Nat):Ad 199 (aT N):=Ah (Ag [(162,JQ N),(265,YR N)] []) ⟨[],[]⟩ Tryz.f199 N (Ac ⟨Ir N,lF N,trivial⟩)
end
noncomputable section
def iF:List (Nat×Nrm):=[(3,⟨[],[],[],[],[]⟩),(18,⟨[2,3,15,16],[],[],[],[]⟩)]
def mY:Lk:=⟨[],[(18,⟨[(2,.c (.c (.ptr 33280 0))),(3,.c (.c (.ptr 33536 0))),(15,.i),(16,.c x64)],[(33280,.box [(xl (.sl 73 Tq0 .nil))]),(33536,.box [(xl (.sl 73 Tq0 .nil))])]⟩,[(0,⟨[],[]⟩)])]⟩
def Ug (N:Nat):Sig:=.of [Sq0,Sq0] [AZ] (fun a=>Ib N a.1 a.2)
theorem Zp (N:Nat):Ad 153 (Ug N):=Ah (Ag [(217,XM N)] iF) mY Tryz.f153 N (Ac ⟨iG N,trivial⟩)
def Fb (N:Nat):Sig:=.of [Sq8] [Aj] (fun a=>CW N a)
theorem Ez (N:Nat):Ad 159 (Fb N):=Ah (Ag [(229,iY N)] []) ⟨[],[]⟩ Tryz.f159 N (Ac ⟨sD N,trivial⟩)
def YP (N:Nat):Sig:=.of [Ae,Aj] [AZ] (fun a=>VU N a.1 a.2)
theorem kZ (N:Nat):Ad 149 (YP N):=Ah (Ag [(205,l9 N),(206,l7 N)] []) ⟨[],[]⟩ Tryz.f149 N (Ac ⟨uI N,uH N,trivial⟩)
def RJ (N:Nat):Sig:=.of [Aj] [AZ] (fun a=>Oj N a)
theorem Yf (N:Nat):Ad 211 (RJ N):=Ah (Ag [(212,SX N),(270,LC N),(269,KD N)] []) ⟨[],[]⟩ Tryz.f211 N (Ac ⟨Uo N,Rn N,Jr N,trivial⟩)
def mG:List (Nat×Nrm):=[(3,⟨[6,7],[],[],[],[]⟩),(37,⟨[4,6,7],[],[],[(38144,1000000),(39680,1000000)],[]⟩),(42,⟨[6,7,38,39,40],[],[],[(44544,1000000)],[]⟩)]
def rP:Lk:=⟨[(37,⟨[(4,.c (.c (.ptr 33792 0))),(6,.c x64),(7,.c (xo 1000000))],[(33792,.box [x64,x64,x64,x64,x64,x64]),(1000000,.arr 5 false (.int .u8 .nil))]⟩)],[(42,⟨[(6,.i),(7,.c (xo 1000000)),(38,.c (xo 42496)),(39,.i),(40,.c x64)],[(42496,.arr 3 false (.int .i64 .nil)),(1000000,.arr 5 false (.int .u8 .nil))]⟩,[(0,⟨[(6,.i),(7,.c (xo 1000000))],[(1000000,.arr 5 false (.int .u8 .nil))]⟩)])]⟩
def NV (N:Nat):Sig:=.of [Ae] [Aj,Ae] (fun a=>Jj N a)
theorem Qa (N:Nat):Ad 80 (NV N):=Ah (Ag [(139,XF N),(140,gZ N),(136,EM N)] mG) rP Tryz.f80 N (Ac ⟨gU N,rU N,DY N,trivial⟩)
def wQ:List (Nat×Nrm):=[(3,⟨[],[],[],[],[]⟩),(30,⟨[3,15,16,17],[],[],[],[]⟩)]
def Aam:Lk:=⟨[],[(30,⟨[(3,.c (xo 36352)),(15,.i),(16,.i),(17,.c x64)],[(36352,.mp (.str .nil) (.int .i64 .nil))]⟩,[(0,⟨[],[]⟩)])]⟩
def SN (N:Nat):Sig:=.of [.cell false (.sl 183 Tq4)] [Ae] (fun a=>XP N a)
theorem Ui (N:Nat):Ad 141 (SN N):=Ah (Ag [(198,ZL N),(148,Tj N),(199,aT N)] wQ) Aam Tryz.f141 N (Ac ⟨nH N,U0 N,pG N,trivial⟩)
def ED (N:Nat):Sig:=.of [.box [(false,.bool)],.box [(false,.str)],.box [(false,.str)]] [Aj] (fun a=>EO N a.1 a.2.1 a.2.2)
theorem bD (N:Nat):Ad 146 (ED N):=Ah (Ag [(77,Hl N),(147,UB N),(78,CU N),(81,BZ N),(75,D8 N)] []) ⟨[],[]⟩ Tryz.f146 N (Ac ⟨Jm N,Z4 N,CP N,BO N,Dw N,trivial⟩)
def Iz (N:Nat):Alt:=.of [.cell false .str,.cell false (.int .i64)] [IU,.cell false (.int .i64)] [.cell false .ptr,.cell false (.int .i64)] (fun a=>Qg N a.1 a.2)
theorem Ku (N:Nat):Spec Tryz.prog 56 (Iz N).1/\Spec Tryz.prog 56 (Iz N).2.1:=Iu (C:=ctx Tryz.prog [(103,DW N)] [] [(104,EW N)]) (L:=⟨[],[]⟩) (fn:=Tryz.f56) (N:=N) (Ac ⟨Gu N,trivial⟩ ⟨G5 N,trivial⟩) (by kernel_rfl) (by kernel_rfl) (fun a=>by kernel_rfl)
end
