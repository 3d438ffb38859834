import Derived.Test.YtbaomhegdndpnaaGreatDoorA18
import Derived.Test.YtbaomhegdndpnaaGreatDoorA20
import Derived.Test.YtbaomhegdndpnaaGreatDoorA21
set_option linter.all false
namespace Go.Proofs.YtbaomhegdndpnaaGreatDoor.Vm
noncomputable section
open Go.Proofs
def Q4 (N n:Nat):Sig:=.of [.cell false (.int .i64)] [.cell false .str] (fun a=>RH N n a)
theorem RI (N:Nat): ∀ n,Spec Tryz.prog 34 (Q4 N n)
  | 0=>qA (C:=ctx Tryz.prog [] []) (fn:=Tryz.f34) (Ac (gs:=[]) trivial) (by kernel_rfl) (by kernel_rfl)
  | n+1=>Ti (C:=ctx Tryz.prog ((34,Q4 N n)::[]) []) (L:=⟨[],[]⟩) (fn:=Tryz.f34) (N:=N) (Ac ⟨RI N n,trivial⟩)
def aA (N:Nat):Sig:=Q4 N N
theorem nP (N:Nat):Spec Tryz.prog 34 (aA N):=RI N N
def yI:List (Nat×Nrm):=[(3,⟨[3],[([3],5,(.int .u8 .nil),1012288)],[],[(1000000,1012288)],[]⟩),(18,⟨[3,4,8,9,10],[([3],5,(.int .u8 .nil),1000000)],[],[(41472,1000000)],[]⟩),(45,⟨[3,4,6,8,9,10],[([3],5,(.int .u8 .nil),1004096)],[],[(38400,1004096),(1000000,1004096)],[]⟩),(53,⟨[3,4,6,8,9,10],[([3],5,(.int .u8 .nil),1008192)],[],[(1004096,1008192)],[]⟩)]
def Aam:Lk:=⟨[(45,⟨[(3,.c (xo 1004096)),(4,.c xb),(6,.i),(8,.c (xo 34816)),(9,.i),(10,.i)],[(34816,.arr 5 false (.int .u8 .nil)),(1004096,.arr 5 false (.int .u8 .nil))]⟩),(53,⟨[(3,.c (xo 1008192)),(4,.i),(6,.c x8),(8,.c (xo 34816)),(9,.i),(10,.i)],[(34816,.arr 5 false (.int .u8 .nil)),(1008192,.arr 5 false (.int .u8 .nil))]⟩)],[(18,⟨[(3,.c (xo 1000000)),(4,.c xb),(8,.c (xo 34816)),(9,.i),(10,.c x64)],[(34816,.arr 5 false (.int .u8 .nil)),(1000000,.arr 5 false (.int .u8 .nil))]⟩,[(0,⟨[(3,.c (xo 1012288))],[(1012288,.arr 5 false (.int .u8 .nil))]⟩)])]⟩
def aI (N:Nat):Sig:=.of [Aj] [Aj] (fun a=>YM N a)
theorem o6 (N:Nat):Ad 335 (aI N):=Ah (Ag [] yI) Aam Tryz.f335 N (Ac trivial)
def eY:List (Nat×Nrm):=[(3,⟨[2,3],[([3],74,(.sl 73 Tq0 .nil),1004096)],[],[(1000000,1004096)],[]⟩),(14,⟨[2,3,7,8,9],[([3],74,(.sl 73 Tq0 .nil),1000000)],[],[(37120,1000000)],[]⟩)]
def l9:Lk:=⟨[],[(14,⟨[(2,.c (.c (.ptr 33280 0))),(3,.c (xo 1000000)),(7,.i),(8,.i),(9,.c x64)],[(33280,.box [(xo 33281)]),(33281,.BO 74 false (.sl 73 Tq0 .nil)),(1000000,.arr 74 false (.sl 73 Tq0 .nil))]⟩,[(0,⟨[(2,.c (.c (.ptr 33280 0))),(3,.c (xo 1004096))],[(33280,.box [(xo 33281)]),(33281,.BO 74 false (.sl 73 Tq0 .nil)),(1004096,.arr 74 false (.sl 73 Tq0 .nil))]⟩)])]⟩
def Lu (N:Nat):Sig:=.of [Sq0] [Sq0] (fun a=>PG N a)
theorem Oh (N:Nat):Ad 50 (Lu N):=Ah (Ag [] eY) l9 Tryz.f50 N (Ac trivial)
def Xq (N:Nat):Sig:=.of [Af] [Af] (fun a=>H6 N a)
theorem Xr (N:Nat):Ad 20 (Xq N):=Ah (Ag [] []) ⟨[],[]⟩ Tryz.f20 N (Ac trivial)
def XW (N:Nat):Sig:=.of [] [Sq4] (fun _=>iE N)
theorem iF (N:Nat):Ad 282 (XW N):=Ah (Ag [] []) ⟨[],[]⟩ Tryz.f282 N (Ac trivial)
def LC (N:Nat):Sig:=.of [] [Sq5] (fun _=>JU N)
theorem Ou (N:Nat):Ad 312 (LC N):=Ah (Ag [] []) ⟨[],[]⟩ Tryz.f312 N (Ac trivial)
def ZO (N:Nat):Sig:=.of [.cell false (.int .u32),.cell false (.int .u64)] [.cell false (.int .u32)] (fun a=>Ed N a.1 a.2)
theorem mO (N:Nat):Ad 337 (ZO N):=Ah (Ag [] []) ⟨[],[]⟩ Tryz.f337 N (Ac trivial)
def Wi (N:Nat):Sig:=.of [] [Sq6] (fun _=>ZN N)
theorem bJ (N:Nat):Ad 338 (Wi N):=Ah (Ag [] []) ⟨[],[]⟩ Tryz.f338 N (Ac trivial)
end
noncomputable section
def nU:List (Nat×Nrm):=[(3,⟨[],[],[],[],[]⟩),(26,⟨[0,3,4,5],[],[],[],[]⟩)]
def sK:Lk:=⟨[],[(26,⟨[(0,.i),(3,.i),(4,.c xb),(5,.c x64)],[]⟩,[(0,⟨[],[]⟩)])]⟩
def Wy (N:Nat):Sig:=.of [Aj] [AL] (fun a=>SX N a)
theorem dG (N:Nat):Ad 226 (Wy N):=Ah (Ag [] nU [] [] [] [37,39,40,43,54,55]) sK Tryz.f226 N (Ac trivial)
def RJ (N:Nat):Sig:=.of [Aj] [AL] (fun a=>NU N a)
theorem Y4 (N:Nat):Ad 227 (RJ N):=Ah (Ag [] []) ⟨[],[]⟩ Tryz.f227 N (Ac trivial)
def nR:List (Nat×Nrm):=[(3,⟨[3],[],[],[],[]⟩),(14,⟨[3,8,9],[],[],[],[]⟩)]
def sF:Lk:=⟨[],[(14,⟨[(3,.c (xo 34304)),(8,.i),(9,.c x64)],[(34304,.arr 5 false (.int .u8 .nil))]⟩,[(0,⟨[(3,.c (xo 34304))],[(34304,.arr 5 false (.int .u8 .nil))]⟩)])]⟩
def Wv (N:Nat):Sig:=.of [Aj] [Aj] (fun a=>aB N a)
theorem dE (N:Nat):Ad 336 (Wv N):=Ah (Ag [] nR) sF Tryz.f336 N (Ac trivial)
def Ux (N:Nat):Sig:=.of [Af] [AL] (fun a=>QC N a)
theorem Z5 (N:Nat):Ad 95 (Ux N):=Ah (Ag [] [] [] [] [] [5,8,9,12,15,16]) ⟨[],[]⟩ Tryz.f95 N (Ac trivial)
end
noncomputable section
def merkle_Tree_valid_S (N:Nat):Sig:=.of [Sq9] [AL] (fun a=>merkle_Tree_valid N a)
theorem FB (N:Nat):Ad 119 (merkle_Tree_valid_S N):=Ah (Ag [] []) ⟨[],[]⟩ Tryz.f119 N (Ac trivial)
def nT:List (Nat×Nrm):=[(3,⟨[0,5,6],[],[],[],[]⟩),(11,⟨[0,5,6],[],[],[],[]⟩),(18,⟨[0,1,5,6,7],[],[],[],[]⟩),(19,⟨[0,13,14,15,16,17,18,19,20],[],[],[],[]⟩),(34,⟨[0,5,6,8],[],[],[],[]⟩),(66,⟨[0,5,6,13,14,15,16,17,18,19,20,21],[],[],[],[]⟩)]
def sH:Lk:=⟨[],[(18,⟨[(0,.i),(1,.i),(5,.c (xo 39424)),(6,.c (.c (.AV 34304 0 0))),(7,.c x64)],[(34304,.arr 205 false (.int .u32 .nil)),(39424,.arr 143 false (.int .u32 .nil))]⟩,[(0,⟨[(0,.i),(5,.c (xo 39424)),(6,.c (.c (.AV 34304 0 0)))],[(34304,.arr 205 false (.int .u32 .nil)),(39424,.arr 143 false (.int .u32 .nil))]⟩)]),(34,⟨[(0,.i),(5,.c (xo 39424)),(6,.c (.c (.AV 34304 0 0))),(8,.c x64)],[(34304,.arr 205 false (.int .u32 .nil)),(39424,.arr 143 false (.int .u32 .nil))]⟩,[(2,⟨[(0,.i),(5,.c (xo 39424)),(6,.c (.c (.AV 34304 0 0)))],[(34304,.arr 205 false (.int .u32 .nil)),(39424,.arr 143 false (.int .u32 .nil))]⟩)]),(66,⟨[(0,.i),(5,.c (xo 39424)),(6,.c (.c (.AV 34304 0 0))),(13,.c (xi .u32)),(14,.c (xi .u32)),(15,.c (xi .u32)),(16,.c (xi .u32)),(17,.c (xi .u32)),(18,.c (xi .u32)),(19,.c (xi .u32)),(20,.c (xi .u32)),(21,.c x64)],[(34304,.arr 205 false (.int .u32 .nil)),(39424,.arr 143 false (.int .u32 .nil))]⟩,[(4,⟨[(0,.i),(13,.c (xi .u32)),(14,.c (xi .u32)),(15,.c (xi .u32)),(16,.c (xi .u32)),(17,.c (xi .u32)),(18,.c (xi .u32)),(19,.c (xi .u32)),(20,.c (xi .u32))],[]⟩)])]⟩
def Wx (N:Nat):Sig:=.of [Afm,Aj] [Afm] (fun a=>aF N a.1 a.2)
theorem dF (N:Nat):Ad 100 (Wx N):=Ah (Ag [] nT) sH Tryz.f100 N (Ac trivial)
def kC (N:Nat):Sig:=.of [Af] [Aj] (fun a=>y9 N a)
theorem sQ (N:Nat):Ad 54 (kC N):=Ah (Ag [] []) ⟨[],[]⟩ Tryz.f54 N (Ac trivial)
def AbC:List (Nat×Nrm):=[(3,⟨[3],[],[],[],[]⟩),(22,⟨[0,3,4],[],[],[],[]⟩)]
def AcX:Lk:=⟨[],[(22,⟨[(0,.i),(3,.c x64),(4,.c x64)],[]⟩,[(0,⟨[(3,.c x64)],[]⟩)])]⟩
def pU (N:Nat):Sig:=.of [Aj] [Af] (fun a=>Aa1 N a)
theorem xH (N:Nat):Ad 257 (pU N):=Ah (Ag [] AbC [] [] [] [7,11,12,16,20,21]) AcX Tryz.f257 N (Ac trivial)
def jG (N:Nat):Sig:=.of [Af,Af] [AL] (fun a=>xJ N a.1 a.2)
theorem rO (N:Nat):Ad 258 (jG N):=Ah (Ag [] []) ⟨[],[]⟩ Tryz.f258 N (Ac trivial)
def WE (N:Nat):Sig:=.of [.cell false (.int .u8)] [AL] (fun a=>aJ N a)
theorem dN (N:Nat):Ad 208 (WE N):=Ah (Ag [] [] [] [] [] [5,8,9,12,15,16,17,20,23,24]) ⟨[],[]⟩ Tryz.f208 N (Ac trivial)
def o8 (N:Nat):Sig:=.of [.cell false (.int .u8)] [AL] (fun a=>QG N a)
theorem Z9 (N:Nat):Ad 210 (o8 N):=Ah (Ag [] []) ⟨[],[]⟩ Tryz.f210 N (Ac trivial)
def UM (N:Nat):Sig:=.of [Af,Af,Af] [AL] (fun a=>DX N a.1 a.2.1 a.2.2)
theorem VX (N:Nat):Ad 36 (UM N):=Ah (Ag [] []) ⟨[],[]⟩ Tryz.f36 N (Ac trivial)
end
noncomputable section
def gZ (N:Nat):Sig:=.of [Af] [Af] (fun a=>wH N a)
theorem qX (N:Nat):Ad 150 (gZ N):=Ah (Ag [] []) ⟨[],[]⟩ Tryz.f150 N (Ac trivial)
def NM (N:Nat):Sig:=.of [.cell false (.int .u8)] [AL] (fun a=>SE N a)
theorem Qi (N:Nat):Ad 306 (NM N):=Ah (Ag [] [] [] [] [] [5,8,9,12,15,16]) ⟨[],[]⟩ Tryz.f306 N (Ac trivial)
def Qh (N:Nat):Sig:=.of [.cell false (.int .u8)] [AL] (fun a=>OO N a)
theorem Ru (N:Nat):Ad 307 (Qh N):=Ah (Ag [] []) ⟨[],[]⟩ Tryz.f307 N (Ac trivial)
def Wj (N:Nat):Sig:=.of [Aj] [Aj,Aj] (fun a=>ZQ N a)
theorem bK (N:Nat):Ad 275 (Wj N):=Ah (Ag [] []) ⟨[],[]⟩ Tryz.f275 N (Ac trivial)
def iJ (N:Nat):Sig:=.of [Aj,Af] [AL] (fun a=>Vk N a.1 a.2)
theorem rC (N:Nat):Ad 276 (iJ N):=Ah (Ag [] []) ⟨[],[]⟩ Tryz.f276 N (Ac trivial)
def TZ (N:Nat):Sig:=.of [Aj] [AL] (fun a=>Qe N a)
theorem Zq (N:Nat):Ad 216 (TZ N):=Ah (Ag [] []) ⟨[],[]⟩ Tryz.f216 N (Ac trivial)
def TJ (N:Nat):Sig:=.of [Sq2] [AL] (fun a=>PI N a)
theorem Zh (N:Nat):Ad 90 (TJ N):=Ah (Ag [] []) ⟨[],[]⟩ Tryz.f90 N (Ac trivial)
def CB (N:Nat):Sig:=.of [.box [(false,.bool)],Aj,Af] [Aj] (fun a=>Bi N a.1 a.2.1 a.2.2)
theorem Cj (N:Nat):Ad 78 (CB N):=Ah (Ag [] []) ⟨[],[]⟩ Tryz.f78 N (Ac trivial)
end
noncomputable section
def Zt:List (Nat×Nrm):=[(17,⟨[0,2,3],[],[],[],[]⟩)]
def bQ:Lk:=⟨[(17,⟨[(0,.i),(2,.c (.c (.ptr 33280 0))),(3,.c xs)],[(33280,.box [(xo 33281)]),(33281,.BO 74 false (.sl 73 Tq0 .nil))]⟩)],[]⟩
def Ji (N:Nat):Sig:=.of [Af] [Sq0] (fun a=>Bo N a)
theorem Lj (N:Nat):Ad 8 (Ji N):=Ah (Ag [(34,aA N)] Zt) bQ Tryz.f8 N (Ac ⟨nP N,trivial⟩)
def YN (N:Nat):Sig:=.of [Aj,Aj] [AL] (fun a=>VO N a.1 a.2)
theorem kH (N:Nat):Ad 310 (YN N):=Ah (Ag [(335,aI N)] []) ⟨[],[]⟩ Tryz.f310 N (Ac ⟨o6 N,trivial⟩)
def WO:List (Nat×Nrm):=[(3,⟨[2,4,5],[],[],[],[]⟩),(11,⟨[2,4,5],[],[],[],[]⟩),(14,⟨[1,2,4,5,6],[],[],[],[]⟩),(19,⟨[2,4,11],[],[],[],[]⟩),(27,⟨[4,11],[],[],[],[]⟩),(30,⟨[2,4,5,7],[],[],[],[]⟩),(62,⟨[2,4,5,10,11,12],[],[],[],[]⟩),(98,⟨[2,4,11,204],[],[],[],[]⟩)]
def XY:Lk:=⟨[],[(14,⟨[(1,.i),(2,.c (.c (.AV 33280 0 0))),(4,.c (.c (.AV 33792 0 0))),(5,.c (.c (.AV 34048 0 0))),(6,.c x64)],[(33280,.arr 305 false (.int .u32 .nil)),(33792,.arr 305 false (.int .u32 .nil)),(34048,.arr 205 false (.int .u32 .nil))]⟩,[(0,⟨[(2,.c (.c (.AV 33280 0 0))),(4,.c (.c (.AV 33792 0 0))),(5,.c (.c (.AV 34048 0 0)))],[(33280,.arr 305 false (.int .u32 .nil)),(33792,.arr 305 false (.int .u32 .nil)),(34048,.arr 205 false (.int .u32 .nil))]⟩)]),(30,⟨[(2,.c (.c (.AV 33280 0 0))),(4,.c (.c (.AV 33792 0 0))),(5,.c (.c (.AV 34048 0 0))),(7,.c x64)],[(33280,.arr 305 false (.int .u32 .nil)),(33792,.arr 305 false (.int .u32 .nil)),(34048,.arr 205 false (.int .u32 .nil))]⟩,[(2,⟨[(2,.c (.c (.AV 33280 0 0))),(4,.c (.c (.AV 33792 0 0))),(5,.c (.c (.AV 34048 0 0)))],[(33280,.arr 305 false (.int .u32 .nil)),(33792,.arr 305 false (.int .u32 .nil)),(34048,.arr 205 false (.int .u32 .nil))]⟩)]),(62,⟨[(2,.c (.c (.AV 33280 0 0))),(4,.c (.c (.AV 33792 0 0))),(5,.c (.c (.AV 34048 0 0))),(10,.c (.c (.AV 35328 0 0))),(11,.c (.c (.AV 35584 0 0))),(12,.c x64)],[(33280,.arr 305 false (.int .u32 .nil)),(33792,.arr 305 false (.int .u32 .nil)),(34048,.arr 205 false (.int .u32 .nil)),(35328,.arr 205 false (.int .u32 .nil)),(35584,.arr 305 false (.int .u32 .nil))]⟩,[(4,⟨[(2,.c (.c (.AV 33280 0 0))),(4,.c (.c (.AV 33792 0 0))),(11,.c (.c (.AV 35584 0 0)))],[(33280,.arr 305 false (.int .u32 .nil)),(33792,.arr 305 false (.int .u32 .nil)),(35584,.arr 305 false (.int .u32 .nil))]⟩)]),(98,⟨[(2,.c (.c (.AV 33280 0 0))),(4,.c (.c (.AV 33792 0 0))),(11,.c (.c (.AV 35584 0 0))),(204,.c x64)],[(33280,.arr 305 false (.int .u32 .nil)),(33792,.arr 305 false (.int .u32 .nil)),(35584,.arr 305 false (.int .u32 .nil))]⟩,[(6,⟨[(4,.c (.c (.AV 33792 0 0))),(11,.c (.c (.AV 35584 0 0)))],[(33792,.arr 305 false (.int .u32 .nil)),(35584,.arr 305 false (.int .u32 .nil))]⟩)])]⟩
def Hf (N:Nat):Sig:=.of [Sq5,Sq7] [Sq5] (fun a=>ER N a.1 a.2)
theorem J3 (N:Nat):Ad 313 (Hf N):=Ah (Ag [(337,ZO N),(338,Wi N)] WO) XY Tryz.f313 N (Ac ⟨mO N,bJ N,trivial⟩)
def merkle_Tree_Leaves_S (N:Nat):Sig:=.of [Sq9] [Af] (fun a=>merkle_Tree_Leaves N a)
theorem EY (N:Nat):Ad 99 (merkle_Tree_Leaves_S N):=Ah (Ag [(119,merkle_Tree_valid_S N)] []) ⟨[],[]⟩ Tryz.f99 N (Ac ⟨FB N,trivial⟩)
def xY:List (Nat×Nrm):=[(3,⟨[3],[],[],[],[]⟩),(11,⟨[3,6,9],[],[],[],[]⟩),(14,⟨[3,15,16,17],[],[],[],[]⟩),(19,⟨[6],[],[(none,6,(.int .u32 .nil))],[],[]⟩),(27,⟨[12],[],[],[(51456,1032768),(1028672,1032768)],[]⟩),(49,⟨[3,6,7,8],[],[],[],[]⟩),(62,⟨[3,6,7,9,10],[],[],[],[]⟩),(82,⟨[3,6,11],[],[(none,6,(.int .u32 .nil))],[],[]⟩),(102,⟨[12,74,75,76],[],[],[(51456,1028672),(56576,1028672)],[]⟩)]
def Aad:Lk:=⟨[(49,⟨[(3,.i),(6,.c (xo 39168)),(7,.i),(8,.c x64)],[(39168,.arr 143 false (.int .u32 .nil))]⟩)],[(14,⟨[(3,.c xs),(15,.i),(16,.i),(17,.c x64)],[]⟩,[(0,⟨[(3,.c xs)],[]⟩)]),(62,⟨[(3,.i),(6,.c (xo 39168)),(7,.i),(9,.c (xo 41984)),(10,.c x64)],[(39168,.arr 143 false (.int .u32 .nil)),(41984,.arr 5 false (.int .u8 .nil))]⟩,[(2,⟨[(3,.i),(6,.c (xo 39168)),(9,.c (xo 41984))],[(39168,.arr 143 false (.int .u32 .nil)),(41984,.arr 5 false (.int .u8 .nil))]⟩)]),(82,⟨[(3,.i),(6,.c (xl (.int .u32 .nil))),(11,.c x64)],[]⟩,[(4,⟨[(6,.c (xl (.int .u32 .nil)))],[]⟩)]),(102,⟨[(12,.c (xo 1028672)),(74,.i),(75,.i),(76,.c x64)],[(1028672,.arr 5 false (.int .u8 .nil))]⟩,[(6,⟨[(12,.c (xo 1032768))],[(1032768,.arr 5 false (.int .u8 .nil))]⟩)])]⟩
def aC (N:Nat):Sig:=.of [Sq8] [Aj] (fun a=>pX N a)
theorem nS (N:Nat):Ad 53 (aC N):=Ah (Ag [(100,Wx N)] xY) Aad Tryz.f53 N (Ac ⟨dF N,trivial⟩)
def zY:List (Nat×Nrm):=[(3,⟨[4],[([4],3,(.int .i64 .nil),1004096)],[],[(1000000,1004096)],[]⟩),(26,⟨[4,18,19,20],[([4],3,(.int .i64 .nil),1000000)],[],[(40704,1000000)],[]⟩)]
def AbD:Lk:=⟨[],[(26,⟨[(4,.c (xo 1000000)),(18,.i),(19,.i),(20,.c x64)],[(1000000,.arr 3 false (.int .i64 .nil))]⟩,[(0,⟨[(4,.c (xo 1004096))],[(1004096,.arr 3 false (.int .i64 .nil))]⟩)])]⟩
def Vy (N:Nat):Sig:=.of [Aj] [Agi] (fun a=>bZ N a)
theorem Wp (N:Nat):Ad 192 (Vy N):=Ah (Ag [(256,GL N),(257,pU N),(258,jG N)] zY) AbD Tryz.f192 N (Ac ⟨Nr N,xH N,rO N,trivial⟩)
def o7 (N:Nat):Sig:=.of [.cell false (.int .u8)] [AL] (fun a=>QF N a)
theorem Z8 (N:Nat):Ad 207 (o7 N):=Ah (Ag [(208,WE N),(209,G6 N)] []) ⟨[],[]⟩ Tryz.f207 N (Ac ⟨dN N,IP N,trivial⟩)
def rD:List (Nat×Nrm):=[(3,⟨[],[],[],[],[]⟩),(18,⟨[27,28,29],[],[],[],[]⟩)]
def wL:Lk:=⟨[],[(18,⟨[(27,.c (xo 39680)),(28,.i),(29,.c x64)],[(39680,.arr 5 false (.int .u8 .nil))]⟩,[(0,⟨[],[]⟩)])]⟩
def Yc (N:Nat):Sig:=.of [Aj] [AL] (fun a=>iK N a)
theorem iL (N:Nat):Ad 303 (Yc N):=Ah (Ag [(306,NM N),(307,Qh N)] rD [] [] [] [8,12,13,17,18,25]) wL Tryz.f303 N (Ac ⟨Qi N,Ru N,trivial⟩)
end
noncomputable section
def CU (N:Nat):Sig:=.of [Ip] [Af] (fun a=>CZ N a)
theorem CP (N:Nat):Ad 61 (CU N):=Ah (Ag [] []) ⟨[],[]⟩ Tryz.f61 N (Ac trivial)
def jO:List (Nat×Nrm):=[(3,⟨[4],[],[],[],[]⟩),(30,⟨[0,4,42,43],[],[],[],[]⟩)]
def nK:Lk:=⟨[],[(30,⟨[(0,.i),(4,.c x64),(42,.i),(43,.c x64)],[]⟩,[(0,⟨[(4,.c x64)],[]⟩)])]⟩
def LM (N:Nat):Sig:=.of [Aj] [Af,Af] (fun a=>Qy N a)
theorem Oy (N:Nat):Ad 164 (LM N):=Ah (Ag [] jO [] [] [] [8,12,16,20,21,25,29,30,31,32]) nK Tryz.f164 N (Ac trivial)
def dO:List (Nat×Nrm):=[(3,⟨[],[],[],[],[]⟩),(10,⟨[0,3],[],[],[],[]⟩)]
def kM:Lk:=⟨[],[(10,⟨[(0,.i),(3,.c x64)],[]⟩,[(0,⟨[],[]⟩)])]⟩
def RS (N:Nat):Sig:=.of [.cell false (.sl 98 Tq5)] [AL] (fun a=>WG N a)
theorem YP (N:Nat):Ad 234 (RS N):=Ah (Ag [] dO) kM Tryz.f234 N (Ac trivial)
def lK:List (Nat×Nrm):=[(3,⟨[3],[],[],[],[]⟩),(14,⟨[3,7,8,9],[],[],[],[]⟩)]
def qP:Lk:=⟨[],[(14,⟨[(3,.c x64),(7,.c (xo 34560)),(8,.i),(9,.c x64)],[(34560,.arr 5 false (.int .u8 .nil))]⟩,[(0,⟨[(3,.c x64)],[]⟩)])]⟩
def NG (N:Nat):Sig:=.of [Aj] [Af] (fun a=>F6 N a)
theorem PR (N:Nat):Ad 236 (NG N):=Ah (Ag [] lK) qP Tryz.f236 N (Ac trivial)
def DY (N:Nat):Sig:=.of [Ip,Af] [Gv,AL] (fun a=>Cm N a.1 a.2)
theorem DT (N:Nat):Ad 109 (DY N):=Ah (Ag [] []) ⟨[],[]⟩ Tryz.f109 N (Ac trivial)
def Iu (N:Nat):Sig:=.of [Ip] [Af] (fun a=>Fp N a)
theorem JO (N:Nat):Ad 167 (Iu N):=Ah (Ag [] []) ⟨[],[]⟩ Tryz.f167 N (Ac trivial)
def LK (N:Nat):Sig:=.of [Aj] [AL,Af] (fun a=>Qw N a)
theorem Ox (N:Nat):Ad 288 (LK N):=Ah (Ag [] []) ⟨[],[]⟩ Tryz.f288 N (Ac trivial)
def jQ (N:Nat):Sig:=.of [Aj,Af] [AL] (fun a=>V4 N a.1 a.2)
theorem rX (N:Nat):Ad 315 (jQ N):=Ah (Ag [] []) ⟨[],[]⟩ Tryz.f315 N (Ac trivial)
end
noncomputable section
def I5 (N:Nat):Sig:=.of [AL] [Aj] (fun a=>KG N a)
theorem KH (N:Nat):Ad 200 (I5 N):=Ah (Ag [] []) ⟨[],[]⟩ Tryz.f200 N (Ac trivial)
def NJ (N:Nat):Sig:=.of [Af] [Af] (fun a=>SA N a)
theorem Qc (N:Nat):Ad 266 (NJ N):=Ah (Ag [] []) ⟨[],[]⟩ Tryz.f266 N (Ac trivial)
def dC:List (Nat×Nrm):=[(3,⟨[0,4],[],[],[],[]⟩),(11,⟨[5],[],[],[],[]⟩),(18,⟨[0,4],[],[],[],[]⟩),(38,⟨[0,5,34,35],[],[],[],[]⟩)]
def jP:Lk:=⟨[],[(18,⟨[(0,.i),(4,.c x64)],[]⟩,[(0,⟨[(0,.i),(4,.c x64)],[]⟩)]),(38,⟨[(0,.i),(5,.c (xo 38912)),(34,.i),(35,.c x64)],[(38912,.arr 5 false (.int .u8 .nil))]⟩,[(2,⟨[(5,.c (xo 38912))],[(38912,.arr 5 false (.int .u8 .nil))]⟩)])]⟩
def KI (N:Nat):Sig:=.of [Af] [Aj,Af] (fun a=>NS N a)
theorem Nh (N:Nat):Ad 202 (KI N):=Ah (Ag [] dC) jP Tryz.f202 N (Ac trivial)
def Je (N:Nat):Sig:=.of [.box [(false,.bool)]] [AL] (fun a=>EM N a)
theorem Gx (N:Nat):Ad 84 (Je N):=Ah (Ag [] []) ⟨[],[]⟩ Tryz.f84 N (Ac trivial)
def Qz (N:Nat):Sig:=.of [Aj,Af] [AL] (fun a=>OZ N a.1 a.2)
theorem RG (N:Nat):Ad 173 (Qz N):=Ah (Ag [] []) ⟨[],[]⟩ Tryz.f173 N (Ac trivial)
def EE (N:Nat):Sig:=.of [aP] [AL] (fun a=>Dx N a)
theorem EZ (N:Nat):Ad 66 (EE N):=Ah (Ag [] []) ⟨[],[]⟩ Tryz.f66 N (Ac trivial)
def merkle_b4_S (N:Nat):Sig:=.of [Af] [Aj] (fun a=>merkle_b4 N a)
theorem LH (N:Nat):Ad 161 (merkle_b4_S N):=Ah (Ag [] []) ⟨[],[]⟩ Tryz.f161 N (Ac trivial)
def ZV (N:Nat):Sig:=.of [Af] [Aj] (fun a=>pK N a)
theorem nD (N:Nat):Ad 178 (ZV N):=Ah (Ag [] []) ⟨[],[]⟩ Tryz.f178 N (Ac trivial)
end
noncomputable section
def Vz (N:Nat):Sig:=.of [Af] [Aj] (fun a=>Ul N a)
theorem SN (N:Nat):Ad 247 (Vz N):=Ah (Ag [] []) ⟨[],[]⟩ Tryz.f247 N (Ac trivial)
def dA (N:Nat):Sig:=.of [Af] [Aj] (fun a=>Uk N a)
theorem ZY (N:Nat):Ad 248 (dA N):=Ah (Ag [] []) ⟨[],[]⟩ Tryz.f248 N (Ac trivial)
def Aaa:List (Nat×Nrm):=[(3,⟨[3],[],[],[],[]⟩),(14,⟨[3,10,11,12],[],[],[],[]⟩)]
def AbH:Lk:=⟨[],[(14,⟨[(3,.c (xo 35072)),(10,.i),(11,.i),(12,.c x64)],[(35072,.arr 5 false (.int .u8 .nil))]⟩,[(0,⟨[(3,.c (xo 35072))],[(35072,.arr 5 false (.int .u8 .nil))]⟩)])]⟩
def V3 (N:Nat):Sig:=.of [Sq8] [Aj] (fun a=>Qq N a)
theorem Wu (N:Nat):Ad 232 (V3 N):=Ah (Ag [] Aaa [] [] [20]) AbH Tryz.f232 N (Ac trivial)
def KA (N:Nat):Sig:=.of [Aj,Af] [Af] (fun a=>Fe N a.1 a.2)
theorem Nb (N:Nat):Ad 174 (KA N):=Ah (Ag [] []) ⟨[],[]⟩ Tryz.f174 N (Ac trivial)
def Ll (N:Nat):Sig:=.of [Agk] [Aj] (fun a=>Ov N a)
theorem SK (N:Nat):Ad 121 (Ll N):=Ah (Ag [] []) ⟨[],[]⟩ Tryz.f121 N (Ac trivial)
def rP:List (Nat×Nrm):=[(3,⟨[4,5],[([4],3,(.int .i64 .nil),1004096)],[],[(1000000,1004096)],[]⟩),(26,⟨[4,5,14,15,16],[([4],3,(.int .i64 .nil),1000000)],[],[(40448,1000000)],[]⟩)]
def xO:Lk:=⟨[],[(26,⟨[(4,.c (xo 1000000)),(5,.c x64),(14,.c (xo 36352)),(15,.i),(16,.c x64)],[(36352,.arr 5 false (.int .u8 .nil)),(1000000,.arr 3 false (.int .i64 .nil))]⟩,[(0,⟨[(4,.c (xo 1004096)),(5,.c x64)],[(1004096,.arr 3 false (.int .i64 .nil))]⟩)])]⟩
def Qp (N:Nat):Sig:=.of [Aj] [AaB,Af] (fun a=>Gj N a)
theorem Ry (N:Nat):Ad 175 (Qp N):=Ah (Ag [] rP) xO Tryz.f175 N (Ac trivial)
def FW (N:Nat):Sig:=.of [Ip] [Gv,Af] (fun a=>H8 N a)
theorem Gw (N:Nat):Ad 105 (FW N):=Ah (Ag [] []) ⟨[],[]⟩ Tryz.f105 N (Ac trivial)
def nH:List (Nat×Nrm):=[(3,⟨[3],[([3],3,(.int .i64 .nil),1016384)],[],[(1000000,1016384)],[]⟩),(7,⟨[0,3,4],[],[],[],[]⟩),(11,⟨[],[],[],[],[]⟩),(14,⟨[0,3,4],[([3],3,(.int .i64 .nil),1000000)],[],[(42240,1000000)],[]⟩),(30,⟨[0,3,4,5],[([3],3,(.int .i64 .nil),1004096)],[],[(1000000,1004096)],[]⟩)]
def rM:Lk:=⟨[],[(14,⟨[(0,.i),(3,.c (xo 1000000)),(4,.c x64)],[(1000000,.arr 3 false (.int .i64 .nil))]⟩,[(0,⟨[(3,.c (xo 1016384))],[(1016384,.arr 3 false (.int .i64 .nil))]⟩)]),(30,⟨[(0,.i),(3,.c (xo 1004096)),(4,.c x64),(5,.c x64)],[(1004096,.arr 3 false (.int .i64 .nil))]⟩,[(1,⟨[(0,.i),(3,.c (xo 42240)),(4,.c x64)],[(42240,.arr 3 false (.int .i64 .nil))]⟩),(2,⟨[],[]⟩)])]⟩
def Wq (N:Nat):Sig:=.of [Aj] [AaB] (fun a=>ZX N a)
theorem cO (N:Nat):Ad 245 (Wq N):=Ah (Ag [] nH) rM Tryz.f245 N (Ac trivial)
end
noncomputable section
def Ue (N:Nat):Sig:=.of [Gv] [Af] (fun a=>JY N a)
theorem Zu (N:Nat):Ad 114 (Ue N):=Ah (Ag [] [] [] [] [] [6,10,11,16,17,22]) ⟨[],[]⟩ Tryz.f114 N (Ac trivial)
def nC:List (Nat×Nrm):=[(3,⟨[4],[],[],[],[]⟩),(22,⟨[4,12,13,14],[],[],[],[]⟩)]
def rF:Lk:=⟨[],[(22,⟨[(4,.c x64),(12,.c (xo 35840)),(13,.i),(14,.c x64)],[(35840,.arr 5 false (.int .u8 .nil))]⟩,[(0,⟨[(4,.c x64)],[]⟩)])]⟩
def Wn (N:Nat):Sig:=.of [Aj] [Af,AL] (fun a=>Md N a)
theorem bV (N:Nat):Ad 115 (Wn N):=Ah (Ag [] nC) rF Tryz.f115 N (Ac trivial)
def sG:List (Nat×Nrm):=[(3,⟨[4],[([4],3,(.int .i64 .nil),1012288)],[],[(1000000,1012288)],[]⟩),(11,⟨[0,4,6,8],[([4],3,(.int .i64 .nil),1008192)],[],[(1004096,1008192)],[]⟩),(18,⟨[0,4,5,6],[([4],3,(.int .i64 .nil),1000000)],[],[(53760,1000000)],[]⟩),(58,⟨[0,4,6,7,8,9],[([4],3,(.int .i64 .nil),1004096)],[],[(1000000,1004096)],[]⟩)]
def xZ:Lk:=⟨[],[(18,⟨[(0,.i),(4,.c (xo 1000000)),(5,.c x64),(6,.c x64)],[(1000000,.arr 3 false (.int .i64 .nil))]⟩,[(0,⟨[(4,.c (xo 1012288))],[(1012288,.arr 3 false (.int .i64 .nil))]⟩)]),(58,⟨[(0,.i),(4,.c (xo 1004096)),(6,.i),(7,.i),(8,.c x64),(9,.c x64)],[(1004096,.arr 3 false (.int .i64 .nil))]⟩,[(2,⟨[(0,.i),(4,.c (xo 1008192)),(6,.i),(8,.c x64)],[(1008192,.arr 3 false (.int .i64 .nil))]⟩)])]⟩
def Y2 (N:Nat):Sig:=.of [Aj] [AaB,AL] (fun a=>jV N a)
theorem jW (N:Nat):Ad 218 (Y2 N):=Ah (Ag [] sG [] [] [] [43,47,48,52,56,57,58,62,88,93,94,99,104,105]) xZ Tryz.f218 N (Ac trivial)
def sJ:List (Nat×Nrm):=[(3,⟨[],[],[],[],[]⟩),(10,⟨[0,3],[],[],[],[]⟩),(15,⟨[0,3,5,6,7],[],[],[],[]⟩),(65,⟨[0,3,4,5,6],[],[],[],[]⟩),(82,⟨[0,3,5,6,7,8],[],[],[],[]⟩)]
def y5:Lk:=⟨[(65,⟨[(0,.i),(3,.c x64),(4,.i),(5,.c x64),(6,.c x64)],[]⟩)],[(10,⟨[(0,.i),(3,.c x64)],[]⟩,[(0,⟨[],[]⟩)]),(82,⟨[(0,.i),(3,.i),(5,.i),(6,.i),(7,.c x64),(8,.c x64)],[]⟩,[(3,⟨[(0,.i),(3,.i),(5,.i),(6,.i),(7,.c x64)],[]⟩)])]⟩
def Y3 (N:Nat):Sig:=.of [Aj] [AL] (fun a=>jX N a)
theorem jY (N:Nat):Ad 219 (Y3 N):=Ah (Ag [] sJ [] [] [] [87,90,91,94,97,98]) y5 Tryz.f219 N (Ac trivial)
def Jb (N:Nat):Sig:=.of [.cell false (.int .u8)] [AL] (fun a=>IK N a)
theorem Jl (N:Nat):Ad 220 (Jb N):=Ah (Ag [] [] [] [] [] [5,8,9,12,15,16,17,20,23,24]) ⟨[],[]⟩ Tryz.f220 N (Ac trivial)
def nN:List (Nat×Nrm):=[(3,⟨[],[],[],[],[]⟩),(10,⟨[0,1,5],[],[],[],[]⟩)]
def rZ:Lk:=⟨[],[(10,⟨[(0,.i),(1,.i),(5,.c x64)],[]⟩,[(0,⟨[],[]⟩)])]⟩
def NT (N:Nat):Sig:=.of [.cell false (.int .u8),Aj] [AL] (fun a=>IL N a.1 a.2)
theorem Q3 (N:Nat):Ad 221 (NT N):=Ah (Ag [] nN) rZ Tryz.f221 N (Ac trivial)
def O8 (N:Nat):Sig:=.of [Ad0] [AL] (fun a=>GK N a)
theorem VG (N:Nat):Ad 93 (O8 N):=Ah (Ag [] [] [] [] [] [7,11,12,16,17,21,22,26]) ⟨[],[]⟩ Tryz.f93 N (Ac trivial)
def nV:List (Nat×Nrm):=[(3,⟨[5],[([5],9,(.str .nil),1004096)],[],[(1000000,1004096)],[]⟩),(18,⟨[0,1,5,6,7],[([5],9,(.str .nil),1000000)],[],[(40704,1000000)],[]⟩)]
def sN:Lk:=⟨[],[(18,⟨[(0,.i),(1,.i),(5,.c (xo 1000000)),(6,.c x64),(7,.c x64)],[(1000000,.arr 9 false (.str .nil))]⟩,[(0,⟨[(5,.c (xo 1004096))],[(1004096,.arr 9 false (.str .nil))]⟩)])]⟩
def NW (N:Nat):Sig:=.of [Aj,.cell false (.int .u8)] [Sq8] (fun a=>MC N a.1 a.2)
theorem Q9 (N:Nat):Ad 280 (NW N):=Ah (Ag [] nV) sN Tryz.f280 N (Ac trivial)
end
noncomputable section
def KC (N:Nat):Sig:=.of [Aj,Aj,Af] [Af] (fun a=>Gq N a.1 a.2.1 a.2.2)
theorem Nc (N:Nat):Ad 230 (KC N):=Ah (Ag [(174,KA N)] []) ⟨[],[]⟩ Tryz.f230 N (Ac ⟨Nb N,trivial⟩)
def CV (N:Nat):Sig:=.of [Ip,Af] [Gv,Af] (fun a=>Dc N a.1 a.2)
theorem CQ (N:Nat):Ad 57 (CV N):=Ah (Ag [(105,FW N)] []) ⟨[],[]⟩ Tryz.f57 N (Ac ⟨Gw N,trivial⟩)
def rH:List (Nat×Nrm):=[(3,⟨[7],[([7],9,(.str .nil),1004096)],[],[(1000000,1004096)],[]⟩),(34,⟨[7,36,37,38],[([7],9,(.str .nil),1000000)],[],[(45056,1000000)],[]⟩)]
def xE:Lk:=⟨[],[(34,⟨[(7,.c (xo 1000000)),(36,.c (xo 41728)),(37,.i),(38,.c x64)],[(41728,.arr 3 false (.int .i64 .nil)),(1000000,.arr 9 false (.str .nil))]⟩,[(0,⟨[(7,.c (xo 1004096))],[(1004096,.arr 9 false (.str .nil))]⟩)])]⟩
def Ku (N:Nat):Sig:=.of [Aj] [Aj,Af] (fun a=>OU N a)
theorem Kv (N:Nat):Ad 172 (Ku N):=Ah (Ag [(245,Wq N),(246,U0 N),(194,LQ N)] rH) xE Tryz.f172 N (Ac ⟨cO N,Z7 N,OA N,trivial⟩)
def XE (N:Nat):Sig:=.of [Af,Aj] [Adz] (fun a=>fM N a.1 a.2)
theorem fO (N:Nat):Ad 238 (XE N):=Ah (Ag [(236,NG N)] []) ⟨[],[]⟩ Tryz.f238 N (Ac ⟨PR N,trivial⟩)
def XF:List (Nat×Nrm):=[(29,⟨[8,9],[],[],[],[]⟩)]
def Zm:Lk:=⟨[(29,⟨[(8,.i),(9,.c x64)],[(0,.box [(xl Tq5)])]⟩)],[]⟩
def Ol (N:Nat):Sig:=.of [Ip,Af] [AL,Af] (fun a=>D7 N a.1 a.2)
theorem UR (N:Nat):Ad 290 (Ol N):=Ah (Ag [(109,DY N),(288,LK N)] XF) Zm Tryz.f290 N (Ac ⟨DT N,Ox N,trivial⟩)
def SQ (N:Nat):Sig:=.of [Aj] [Aj,Af,Af] (fun a=>Yv N a)
theorem Um (N:Nat):Ad 113 (SQ N):=Ah (Ag [(173,Qz N)] []) ⟨[],[]⟩ Tryz.f113 N (Ac ⟨RG N,trivial⟩)
def Q5 (N:Nat):Sig:=.of [Aj] [AL] (fun a=>Uo N a)
theorem WS (N:Nat):Ad 154 (Q5 N):=Ah (Ag [(218,Y2 N)] []) ⟨[],[]⟩ Tryz.f154 N (Ac ⟨jW N,trivial⟩)
def Y1:List (Nat×Nrm):=[(7,⟨[],[],[],[],[]⟩),(25,⟨[0,1,11],[],[],[],[]⟩),(30,⟨[0,1,5],[],[],[],[]⟩)]
def Zx:Lk:=⟨[(25,⟨[(0,.i),(1,.i),(11,.c xb)],[]⟩)],[(30,⟨[(0,.i),(1,.i),(5,.c x64)],[]⟩,[(1,⟨[],[]⟩)])]⟩
def O5 (N:Nat):Sig:=.of [Af,Aj] [AL] (fun a=>KP N a.1 a.2)
theorem VA (N:Nat):Ad 155 (O5 N):=Ah (Ag [(219,Y3 N),(220,Jb N),(221,NT N)] Y1 [] [] [] [22,27,32,33,34,37,43,44,50,51]) Zx Tryz.f155 N (Ac ⟨jY N,Jl N,Q3 N,trivial⟩)
end
noncomputable section
def y7:List (Nat×Nrm):=[(3,⟨[],[],[],[],[]⟩),(11,⟨[10,11,12],[],[],[],[]⟩),(18,⟨[10,11,12],[],[],[],[]⟩),(38,⟨[4,5,10,11,12],[],[],[],[]⟩)]
def Aae:Lk:=⟨[],[(18,⟨[(10,.i),(11,.i),(12,.c x64)],[]⟩,[(0,⟨[],[]⟩)]),(38,⟨[(4,.i),(5,.c x64),(10,.i),(11,.i),(12,.i)],[]⟩,[(2,⟨[(10,.i),(11,.i),(12,.i)],[]⟩)])]⟩
def IM (N:Nat):Sig:=.of [Aj] [AL] (fun a=>DI N a)
theorem Ig (N:Nat):Ad 278 (IM N):=Ah (Ag [(280,NW N),(220,Jb N)] y7 [] [] [] [19,23,24,28,29,36]) Aae Tryz.f278 N (Ac ⟨Q9 N,Jl N,trivial⟩)
def sD:List (Nat×Nrm):=[(3,⟨[3],[([3],5,(.int .u8 .nil),1004096)],[],[(1000000,1004096)],[]⟩),(18,⟨[0,3,4],[([3],5,(.int .u8 .nil),1000000)],[],[(41984,1000000)],[]⟩)]
def xX:Lk:=⟨[],[(18,⟨[(0,.i),(3,.c (xo 1000000)),(4,.c x64)],[(1000000,.arr 5 false (.int .u8 .nil))]⟩,[(0,⟨[(3,.c (xo 1004096))],[(1004096,.arr 5 false (.int .u8 .nil))]⟩)])]⟩
def Y0 (N:Nat):Sig:=.of [Aj] [Aj] (fun a=>V8 N a)
theorem jU (N:Nat):Ad 311 (Y0 N):=Ah (Ag [(336,Wv N)] sD) xX Tryz.f311 N (Ac ⟨dE N,trivial⟩)
end
noncomputable section
def Aaq:List (Nat×Nrm):=[(3,⟨[0,1,6],[],[],[],[]⟩),(22,⟨[0,1,6,21,22,23],[],[],[],[]⟩),(77,⟨[1,9],[],[],[(45568,1008192),(47616,1008192),(49664,1008192),(52480,1008192)],[]⟩)]
def Aca:Lk:=⟨[(77,⟨[(1,.i),(9,.c (xo 1008192))],[(1008192,.arr 5 false (.int .u8 .nil))]⟩)],[(22,⟨[(0,.i),(1,.i),(6,.c x64),(21,.i),(22,.i),(23,.c x64)],[]⟩,[(0,⟨[(0,.i),(1,.i),(6,.c x64)],[]⟩)])]⟩
def EG (N:Nat):Sig:=.of [Af,Sq8] [Aj,Af] (fun a=>CO N a.1 a.2)
theorem DK (N:Nat):Ad 136 (EG N):=Ah (Ag [(194,LQ N)] Aaq) Aca Tryz.f136 N (Ac ⟨OA N,trivial⟩)
def Yx:List (Nat×Nrm):=[(3,⟨[0,3],[],[],[],[]⟩),(11,⟨[5],[([5],5,(.int .u8 .nil),1012288)],[],[(1008192,1012288)],[]⟩),(14,⟨[0,3,4],[],[],[],[]⟩),(34,⟨[0,3,5,18,19],[([5],5,(.int .u8 .nil),1008192)],[],[(41216,1008192)],[]⟩)]
def Zw:Lk:=⟨[],[(14,⟨[(0,.i),(3,.c x64),(4,.c x64)],[]⟩,[(0,⟨[(0,.i),(3,.c x64)],[]⟩)]),(34,⟨[(0,.i),(3,.i),(5,.c (xo 1008192)),(18,.i),(19,.c x64)],[(1008192,.arr 5 false (.int .u8 .nil))]⟩,[(2,⟨[(5,.c (xo 1012288))],[(1012288,.arr 5 false (.int .u8 .nil))]⟩)])]⟩
def I7 (N:Nat):Sig:=.of [Af] [Aj] (fun a=>KJ N a)
theorem KL (N:Nat):Ad 133 (I7 N):=Ah (Ag [] Yx) Zw Tryz.f133 N (Ac trivial)
def fK (N:Nat):Sig:=.of [Af] [Af] (fun a=>NC N a)
theorem XC (N:Nat):Ad 263 (fK N):=Ah (Ag [] []) ⟨[],[]⟩ Tryz.f263 N (Ac trivial)
def ZG (N:Nat):Sig:=.of [Af] [AL] (fun a=>XD N a)
theorem lJ (N:Nat):Ad 264 (ZG N):=Ah (Ag [] []) ⟨[],[]⟩ Tryz.f264 N (Ac trivial)
def zG:List (Nat×Nrm):=[(3,⟨[0,1,7],[],[],[(0,1004096),(1000000,1004096)],[]⟩),(11,⟨[0],[],[],[],[]⟩),(14,⟨[0,1,2,7,8],[],[],[(0,1000000),(37632,1000000)],[]⟩),(30,⟨[0,1,7,9],[],[],[],[]⟩)]
def AaX:Lk:=⟨[],[(14,⟨[(0,.c (xo 1000000)),(1,.i),(2,.i),(7,.i),(8,.c x64)],[(1000000,.arr 5 false (.int .u8 .nil))]⟩,[(0,⟨[(0,.c (xo 1004096)),(1,.i),(7,.i)],[(1004096,.arr 5 false (.int .u8 .nil))]⟩)]),(30,⟨[(0,.c (xo 1004096)),(1,.c x64),(7,.i),(9,.c x64)],[(1004096,.arr 5 false (.int .u8 .nil))]⟩,[(2,⟨[(0,.c (xo 1004096))],[(1004096,.arr 5 false (.int .u8 .nil))]⟩)])]⟩
def fP (N:Nat):Sig:=.of [Afo,Af,Af] [Afo] (fun a=>UQ N a.1 a.2.1 a.2.2)
theorem qQ (N:Nat):Ad 140 (fP N):=Ah (Ag [] zG) AaX Tryz.f140 N (Ac trivial)
def vX:List (Nat×Nrm):=[(3,⟨[3],[],[],[],[]⟩),(14,⟨[3,9,10,11],[],[],[],[]⟩)]
def zL:Lk:=⟨[],[(14,⟨[(3,.c (xo 34816)),(9,.i),(10,.i),(11,.c x64)],[(34816,.mp (.str .nil) (.int .i64 .nil))]⟩,[(0,⟨[(3,.c (xo 34816))],[(34816,.mp (.str .nil) (.int .i64 .nil))]⟩)])]⟩
def ZI (N:Nat):Sig:=.of [.cell false (.sl 183 Tq4)] [Agj] (fun a=>oV N a)
theorem lZ (N:Nat):Ad 198 (ZI N):=Ah (Ag [] vX) zL Tryz.f198 N (Ac trivial)
def aN (N:Nat):Sig:=.of [Af] [Af] (fun a=>qE N a)
theorem oD (N:Nat):Ad 285 (aN N):=Ah (Ag [] []) ⟨[],[]⟩ Tryz.f285 N (Ac trivial)
def AbE:List (Nat×Nrm):=[(3,⟨[0,1,5],[],[],[],[]⟩),(10,⟨[0,1,5],[],[],[],[]⟩),(11,⟨[0,1],[],[],[(0,1012288),(1008192,1012288)],[]⟩),(22,⟨[0,1,6],[],[],[(0,1008192),(40704,1008192)],[]⟩)]
def AcY:Lk:=⟨[],[(10,⟨[(0,.c (xo 0)),(1,.i),(5,.c x64)],[(0,.arr 5 true (.int .u8 .nil))]⟩,[(0,⟨[(0,.c (xo 0)),(1,.i),(5,.c x64)],[(0,.arr 5 true (.int .u8 .nil))]⟩)]),(22,⟨[(0,.c (xo 1008192)),(1,.i),(6,.c x64)],[(1008192,.arr 5 true (.int .u8 .nil))]⟩,[(2,⟨[(0,.c (xo 1012288)),(1,.i)],[(1012288,.arr 5 true (.int .u8 .nil))]⟩)])]⟩
def pV (N:Nat):Sig:=.of [Afp,Af] [Afp] (fun a=>nI N a.1 a.2)
theorem xI (N:Nat):Ad 193 (pV N):=Ah (Ag [] AbE) AcY Tryz.f193 N (Ac trivial)
end
noncomputable section
def rE:List (Nat×Nrm):=[(3,⟨[],[],[],[],[]⟩),(18,⟨[32,33,34],[],[],[],[]⟩)]
def wM:Lk:=⟨[],[(18,⟨[(32,.c (xo 40960)),(33,.i),(34,.c x64)],[(40960,.arr 5 false (.int .u8 .nil))]⟩,[(0,⟨[],[]⟩)])]⟩
def Yd (N:Nat):Sig:=.of [Aj] [AL] (fun a=>Vl N a)
theorem iM (N:Nat):Ad 272 (Yd N):=Ah (Ag [(274,Hu N),(306,NM N),(307,Qh N),(209,G6 N)] rE [] [] [] [9,13,14,18,19,26,27,30]) wM Tryz.f272 N (Ac ⟨J8 N,Qi N,Ru N,IP N,trivial⟩)
def qZ:List (Nat×Nrm):=[(3,⟨[],[],[],[],[]⟩),(26,⟨[3,4,5,6],[],[],[],[]⟩)]
def wK:Lk:=⟨[],[(26,⟨[(3,.i),(4,.i),(5,.c xb),(6,.c x64)],[]⟩,[(0,⟨[],[]⟩)])]⟩
def Yb (N:Nat):Sig:=.of [Aj] [AL] (fun a=>Vj N a)
theorem iI (N:Nat):Ad 215 (Yb N):=Ah (Ag [(275,Wj N),(276,iJ N)] qZ [] [] [] [32,34,35,38,42,43]) wK Tryz.f215 N (Ac ⟨bK N,rC N,trivial⟩)
def X5 (N:Nat):Sig:=.of [Af] [AL] (fun a=>UL N a)
theorem fF (N:Nat):Ad 89 (X5 N):=Ah (Ag [(20,Xq N)] []) ⟨[],[]⟩ Tryz.f89 N (Ac ⟨Xr N,trivial⟩)
def BL (N:Nat):Sig:=.of [.box [(false,.bool)],Af,Sq8] [Aj] (fun a=>Bl N a.1 a.2.1 a.2.2)
theorem BF (N:Nat):Ad 81 (BL N):=Ah (Ag [(136,EG N),(78,CB N)] []) ⟨[],[]⟩ Tryz.f81 N (Ac ⟨DK N,Cj N,trivial⟩)
def XG (N n:Nat):Sig:=.of [.cell false (.int .i64)] [.cell false (.int .i64)] (lM N n)
theorem fQ (N:Nat):UA Tryz.prog (XG N):=Aax (pars:=[.cell false (.int .i64)]) (ress:=[.cell false (.int .i64)]) (l:=[(263,fun a=>NC N a)]) ⟨XC N,trivial⟩
def NF (N:Nat):Sig:=.of [Af,Af] [Af] (fun a=>Gt N a.1 a.2)
theorem PQ (N:Nat):Ad 197 (NF N):=Ah (Ag [(264,ZG N)] []) ⟨[],[]⟩ Tryz.f197 N (Ac ⟨lJ N,trivial⟩)
def Aap:List (Nat×Nrm):=[(3,⟨[0,2,5,6,7,8,9],[],[],[],[]⟩),(74,⟨[0,2,5,6,7,8,9,50,51,52],[],[],[],[]⟩),(101,⟨[0,2,5,6,7,8],[],[],[],[]⟩)]
def AbZ:Lk:=⟨[(101,⟨[(0,.i),(2,.c (.c (.ptr 33280 0))),(5,.c (.c (.ptr 34048 0))),(6,.i),(7,.c x64),(8,.c x64)],[(33280,.box [(.c (.int .i64 0)),(.c (.str ([]:Bs))),(.c (.str ([]:Bs)))]),(34048,.box [(.c (.int .i64 0)),(.c (.str ([]:Bs))),(.c (.str ([]:Bs)))])]⟩)],[(74,⟨[(0,.i),(2,.c (.c (.ptr 33280 0))),(5,.c (.c (.ptr 34048 0))),(6,.i),(7,.c x64),(8,.i),(9,.i),(50,.c (xo 45568)),(51,.i),(52,.c x64)],[(33280,.box [(.c (.int .i64 0)),(.c (.str ([]:Bs))),(.c (.str ([]:Bs)))]),(34048,.box [(.c (.int .i64 0)),(.c (.str ([]:Bs))),(.c (.str ([]:Bs)))]),(45568,.arr 5 false (.int .u8 .nil))]⟩,[(0,⟨[(0,.i),(2,.c (.c (.ptr 33280 0))),(5,.c (.c (.ptr 34048 0))),(6,.i),(7,.c x64),(8,.i),(9,.i)],[(33280,.box [(.c (.int .i64 0)),(.c (.str ([]:Bs))),(.c (.str ([]:Bs)))]),(34048,.box [(.c (.int .i64 0)),(.c (.str ([]:Bs))),(.c (.str ([]:Bs)))])]⟩)])]⟩
def Pn (N:Nat):Sig:=.of [Aj] [Gv,Aj,Af] (fun a=>VQ N a)
theorem Ob (N:Nat):Ad 233 (Pn N):=Ah (Ag [(285,aN N)] Aap) AbZ Tryz.f233 N (Ac ⟨oD N,trivial⟩)
def Un (N:Nat):Sig:=.of [Aj,Af] [Aj,Af] (fun a=>Yw N a.1 a.2)
theorem Zv (N:Nat):Ad 147 (Un N):=Ah (Ag [(173,Qz N)] []) ⟨[],[]⟩ Tryz.f147 N (Ac ⟨RG N,trivial⟩)
end
noncomputable section
def FX (N:Nat):Sig:=.of [.box [(false,.bool)],Af] [Aj] (fun a=>FP N a.1 a.2)
theorem Gy (N:Nat):Ad 76 (FX N):=Ah (Ag [(133,I7 N),(81,BL N)] []) ⟨[],[]⟩ Tryz.f76 N (Ac ⟨KL N,BF N,trivial⟩)
def ND (N:Nat):Sig:=.of [Af] [Af] (fun a=>LY N a)
theorem PO (N:Nat):Ad 196 (ND N):=Ah (Ag [] [] [] [(7,XG N),(12,XG N)]) ⟨[],[]⟩ Tryz.f196 N (Ac trivial trivial ⟨fQ N,fQ N,trivial⟩)
def J9 (N:Nat):Sig:=.of [Aj] [Gv,Af] (fun a=>P5 N a)
theorem Hw (N:Nat):Ad 162 (J9 N):=Ah (Ag [(233,Pn N)] []) ⟨[],[]⟩ Tryz.f162 N (Ac ⟨Ob N,trivial⟩)
def tJ:List (Nat×Nrm):=[(3,⟨[],[],[],[],[]⟩),(18,⟨[1,5],[],[],[],[]⟩)]
def yK:Lk:=⟨[],[(18,⟨[(1,.i),(5,.c xs)],[]⟩,[(0,⟨[],[]⟩)])]⟩
def Oe (N n:Nat):Sig:=.of [Gv,.cell false (.int .i64)] [.cell false (.int .i64)] (fun a=>VR N n a.1 a.2)
theorem QI (N:Nat): ∀ n,Spec Tryz.prog 265 (Oe N n)
  | 0=>qA (C:=ctx Tryz.prog [] []) (fn:=Tryz.f265) (Ac (gs:=[]) trivial) (by kernel_rfl) (by kernel_rfl)
  | n+1=>Ti (C:=ctx Tryz.prog ((265,Oe N n)::[(233,Pn N)]) tJ) (L:=yK) (fn:=Tryz.f265) (N:=N) (Ac ⟨QI N n,⟨Ob N,trivial⟩⟩)
def YQ (N:Nat):Sig:=Oe N N
theorem kP (N:Nat):Spec Tryz.prog 265 (YQ N):=QI N N
def rJ:List (Nat×Nrm):=[(3,⟨[5],[],[],[(37888,1004096),(1000000,1004096)],[]⟩),(26,⟨[5,22,23,24],[],[],[(37888,1000000),(40448,1000000)],[]⟩)]
def xG:Lk:=⟨[],[(26,⟨[(5,.c (xo 1000000)),(22,.i),(23,.i),(24,.c x64)],[(1000000,.arr 5 true (.int .u8 .nil))]⟩,[(0,⟨[(5,.c (xo 1004096))],[(1004096,.arr 5 true (.int .u8 .nil))]⟩)])]⟩
def Kw (N:Nat):Sig:=.of [Aj] [Aj,Af] (fun a=>OV N a)
theorem Ky (N:Nat):Ad 135 (Kw N):=Ah (Ag [(192,Vy N),(193,pV N)] rJ) xG Tryz.f135 N (Ac ⟨Wp N,xI N,trivial⟩)
def Om (N:Nat):Sig:=.of [.box [(false,.bool)],Af,AL] [Aj] (fun a=>G9 N a.1 a.2.1 a.2.2)
theorem UT (N:Nat):Ad 203 (Om N):=Ah (Ag [(200,I5 N),(81,BL N)] []) ⟨[],[]⟩ Tryz.f203 N (Ac ⟨KH N,BF N,trivial⟩)
def KX (N:Nat):Sig:=.of [aP] [Af] (fun a=>Hr N a)
theorem QT (N:Nat):Ad 101 (KX N):=Ah (Ag [(66,EE N),(99,merkle_Tree_Leaves_S N)] []) ⟨[],[]⟩ Tryz.f101 N (Ac ⟨EZ N,EY N,trivial⟩)
def Aao:List (Nat×Nrm):=[(3,⟨[4],[([4],98,Tq5,1004096)],[],[(1000000,1004096)],[]⟩),(10,⟨[0,4],[([4],98,Tq5,1000000)],[],[(38400,1000000)],[]⟩)]
def AbY:Lk:=⟨[],[(10,⟨[(0,.c xs),(4,.c (xo 1000000))],[(1000000,.arr 98 false Tq5)]⟩,[(0,⟨[(4,.c (xo 1004096))],[(1004096,.arr 98 false Tq5)]⟩)])]⟩
def EF (N:Nat):Sig:=.of [Aj] [.cell false (.sl 98 Tq5),Af] (fun a=>Gl N a)
theorem DJ (N:Nat):Ad 163 (EF N):=Ah (Ag [(233,Pn N)] Aao) AbY Tryz.f163 N (Ac ⟨Ob N,trivial⟩)
end
noncomputable section
def PL (N:Nat):Sig:=.of [Ip] [Af,Af] (fun a=>UK N a)
theorem Rh (N:Nat):Ad 106 (PL N):=Ah (Ag [(57,CV N),(164,LM N)] []) ⟨[],[]⟩ Tryz.f106 N (Ac ⟨CQ N,Oy N,trivial⟩)
def rW:List (Nat×Nrm):=[(3,⟨[8],[],[],[],[]⟩),(46,⟨[4,8,35,36],[],[],[],[]⟩)]
def xQ:Lk:=⟨[],[(46,⟨[(4,.i),(8,.c x64),(35,.i),(36,.c x64)],[]⟩,[(0,⟨[(8,.c x64)],[]⟩)])]⟩
def Qx (N:Nat):Sig:=.of [Aj] [Af,Af] (fun a=>OY N a)
theorem RF (N:Nat):Ad 291 (Qx N):=Ah (Ag [(113,SQ N),(315,jQ N)] rW) xQ Tryz.f291 N (Ac ⟨Um N,rX N,trivial⟩)
def Ri (N:Nat):Sig:=.of [Ip] [Aj,Af] (fun a=>VW N a)
theorem X6 (N:Nat):Ad 60 (Ri N):=Ah (Ag [(57,CV N),(113,SQ N)] []) ⟨[],[]⟩ Tryz.f60 N (Ac ⟨CQ N,Um N,trivial⟩)
def QA:List (Nat×Nrm):=[(3,⟨[],[],[],[],[]⟩),(10,⟨[0,6,7,8],[],[],[],[]⟩),(11,⟨[0,6,7,8],[],[],[],[]⟩),(46,⟨[0,3,4,5,6,7,8],[],[],[],[]⟩)]
def QS:Lk:=⟨[],[(10,⟨[(0,.i),(6,.i),(7,.i),(8,.c x64)],[]⟩,[(0,⟨[],[]⟩)]),(46,⟨[(0,.i),(3,.i),(4,.c (.c (.ptr 33792 0))),(5,.c x64),(6,.i),(7,.i),(8,.i)],[(33792,.box [xs,x64,xs])]⟩,[(2,⟨[(0,.i),(6,.i),(7,.i),(8,.i)],[]⟩)])]⟩
def Io (N:Nat):Sig:=.of [.cell false (.sl 73 Tq0)] [Af] (fun a=>J5 N a)
theorem NY (N:Nat):Ad 92 (Io N):=Ah (Ag [(154,Q5 N),(155,O5 N)] QA) QS Tryz.f92 N (Ac ⟨WS N,VA N,trivial⟩)
def nY:List (Nat×Nrm):=[(3,⟨[0,5],[],[],[],[]⟩),(11,⟨[0,5],[],[],[],[]⟩),(18,⟨[0,5],[],[],[],[]⟩),(38,⟨[0,5,6],[],[],[],[]⟩)]
def sO:Lk:=⟨[],[(18,⟨[(0,.i),(5,.c x64)],[]⟩,[(0,⟨[(0,.i),(5,.c x64)],[]⟩)]),(38,⟨[(0,.i),(5,.i),(6,.c x64)],[]⟩,[(2,⟨[(0,.i),(5,.i)],[]⟩)])]⟩
def W9 (N:Nat):Sig:=.of [Aj] [Aj,Aj,AL] (fun a=>aH N a)
theorem dI (N:Nat):Ad 279 (W9 N):=Ah (Ag [(278,IM N),(220,Jb N),(221,NT N)] nY [] [] [] [24,27,28,33,34,41,42,46,47,53,64,70,71,76,82,83]) sO Tryz.f279 N (Ac ⟨Ig N,Jl N,Q3 N,trivial⟩)
def Y5 (N:Nat):Sig:=.of [Aj] [AL] (fun a=>VB N a)
theorem jZ (N:Nat):Ad 224 (Y5 N):=Ah (Ag [(278,IM N)] []) ⟨[],[]⟩ Tryz.f224 N (Ac ⟨Ig N,trivial⟩)
def RP (N:Nat):Sig:=.of [Aj] [AL] (fun a=>NV N a)
theorem Y7 (N:Nat):Ad 225 (RP N):=Ah (Ag [(278,IM N),(280,NW N)] [] [] [] [] [5,9,13,14,18,19,23,24,29,30]) ⟨[],[]⟩ Tryz.f225 N (Ac ⟨Ig N,Q9 N,trivial⟩)
def Oz (N:Nat):Sig:=.of [Aj,Aj] [AL] (fun a=>KO N a.1 a.2)
theorem V9 (N:Nat):Ad 281 (Oz N):=Ah (Ag [(311,Y0 N)] []) ⟨[],[]⟩ Tryz.f281 N (Ac ⟨jU N,trivial⟩)
end
noncomputable section
def bF:List (Nat×Nrm):=[(89,⟨[2,4,5,6],[],[],[],[]⟩)]
def gI:Lk:=⟨[(89,⟨[(2,.c (.c (.ptr 33280 0))),(4,.c (.c (.ptr 33792 0))),(5,.c (.c (.ptr 34048 0))),(6,.c (xl Tq5))],[(33280,.box [(.c (.str ([]:Bs))),(.c (.bool false)),(.c (.str ([]:Bs)))]),(33792,.box [(.c (.str ([]:Bs))),(.c (.bool false)),(.c (.str ([]:Bs)))]),(34048,.box [xs,xb,(.c (.str ([]:Bs)))])]⟩)],[]⟩
def Ro (N:Nat):Sig:=.of [Gv] [AaA,Af] (fun a=>We N a)
theorem XL (N:Nat):Ad 240 (Ro N):=Ah (Ag [(163,EF N),(172,Ku N),(288,LK N)] bF) gI Tryz.f240 N (Ac ⟨DJ N,Kv N,Ox N,trivial⟩)
def Y6:List (Nat×Nrm):=[(3,⟨[],[],[],[],[]⟩),(18,⟨[11,12,13],[],[],[],[]⟩)]
def Zy:Lk:=⟨[],[(18,⟨[(11,.i),(12,.i),(13,.c x64)],[]⟩,[(0,⟨[],[]⟩)])]⟩
def E5 (N:Nat):Sig:=.of [Sq0] [Af] (fun a=>Ep N a)
theorem ED (N:Nat):Ad 40 (E5 N):=Ah (Ag [(92,Io N)] Y6) Zy Tryz.f40 N (Ac ⟨NY N,trivial⟩)
def Q8 (N:Nat):Sig:=.of [Aj] [AL] (fun a=>Pg N a)
theorem RN (N:Nat):Ad 223 (Q8 N):=Ah (Ag [(279,W9 N)] []) ⟨[],[]⟩ Tryz.f223 N (Ac ⟨dI N,trivial⟩)
def y8:List (Nat×Nrm):=[(3,⟨[],[],[],[],[]⟩),(10,⟨[3,7,8,9],[],[],[],[]⟩)]
def Aaf:Lk:=⟨[],[(10,⟨[(3,.c (.c (.ptr 33536 0))),(7,.i),(8,.i),(9,.c x64)],[(33536,.box [xs,x64,xs])]⟩,[(0,⟨[],[]⟩)])]⟩
def aG (N:Nat):Sig:=.of [.cell false (.sl 73 Tq0),Sq1] [AL] (fun a=>RQ N a.1 a.2)
theorem nX (N:Nat):Ad 228 (aG N):=Ah (Ag [(281,Oz N)] y8) Aaf Tryz.f228 N (Ac ⟨V9 N,trivial⟩)
end
noncomputable section
def bG:List (Nat×Nrm):=[(49,⟨[1,6],[],[],[],[]⟩)]
def gJ:Lk:=⟨[(49,⟨[(1,.c (.c (.ptr 33024 0))),(6,.c (xo 36864))],[(33024,.box [xs,xb,xs]),(36864,.arr 9 false (.str .nil))]⟩)],[]⟩
def Rq (N:Nat):Sig:=.of [AaA] [Aj,Af] (fun a=>Wh N a)
theorem XM (N:Nat):Ad 142 (Rq N):=Ah (Ag [(135,Kw N),(136,EG N),(200,I5 N)] bG) gJ Tryz.f142 N (Ac ⟨Ky N,DK N,KH N,trivial⟩)
def Il (N:Nat):Sig:=.of [Sq1] [Aj,Af] (fun a=>Jw N a)
theorem NI (N:Nat):Ad 137 (Il N):=Ah (Ag [(135,Kw N),(136,EG N)] []) ⟨[],[]⟩ Tryz.f137 N (Ac ⟨Ky N,DK N,trivial⟩)
def G5 (N:Nat):Sig:=.of [] [Aj] (fun _=>Iy N)
theorem II (N:Nat):Ad 77 (G5 N):=Ah (Ag [(135,Kw N),(136,EG N)] []) ⟨[],[]⟩ Tryz.f77 N (Ac ⟨Ky N,DK N,trivial⟩)
def DF (N:Nat):Sig:=.of [Aj,Af] [Gv,Af] (fun a=>FN N a.1 a.2)
theorem FO (N:Nat):Ad 103 (DF N):=Ah (Ag [(162,J9 N)] []) ⟨[],[]⟩ Tryz.f103 N (Ac ⟨Hw N,trivial⟩)
def EL (N:Nat):Alt:=.of [.cell false .str] [Ip,.cell false (.int .i64)] [.cell false .ptr,.cell false (.int .i64)] (fun a=>GX N a)
theorem FV (N:Nat):Spec Tryz.prog 104 (EL N).1/\Spec Tryz.prog 104 (EL N).2.1:=Hy (C:=ctx Tryz.prog [(163,EF N)] []) (L:=⟨[],[]⟩) (fn:=Tryz.f104) (N:=N) (Ac ⟨DJ N,trivial⟩) (by kernel_rfl) (by kernel_rfl) (fun a=>by kernel_rfl)
def Hm (N:Nat):Sig:=.of [Gv] [Af] (fun a=>IJ N a)
theorem MS (N:Nat):Ad 112 (Hm N):=Ah (Ag [(163,EF N),(172,Ku N)] []) ⟨[],[]⟩ Tryz.f112 N (Ac ⟨DJ N,Kv N,trivial⟩)
def PY:List (Nat×Nrm):=[(85,⟨[2,4,5,7],[],[],[],[]⟩)]
def QP:Lk:=⟨[(85,⟨[(2,.c (.c (.ptr 33280 0))),(4,.c (.c (.ptr 33792 0))),(5,.i),(7,.i)],[(33280,.box [(.c (.str ([]:Bs))),(.c (.int .i64 0)),(.c (.str ([]:Bs)))]),(33792,.box [(.c (.str ([]:Bs))),(.c (.int .i64 0)),(.c (.str ([]:Bs)))])]⟩)],[]⟩
def Ik (N:Nat):Sig:=.of [Gv] [Sq1,Af] (fun a=>Jv N a)
theorem NH (N:Nat):Ad 235 (Ik N):=Ah (Ag [(163,EF N),(172,Ku N)] PY) QP Tryz.f235 N (Ac ⟨DJ N,Kv N,trivial⟩)
def fJ:List (Nat×Nrm):=[(3,⟨[1,4],[],[],[],[]⟩),(30,⟨[1,4,5],[],[],[],[]⟩)]
def lI:Lk:=⟨[],[(30,⟨[(1,.c (.c (.ptr 33024 0))),(4,.c x64),(5,.c x64)],[(33024,.box [x64,x64,x64,x64,x64,x64])]⟩,[(0,⟨[(1,.c (.c (.ptr 33024 0))),(4,.c x64)],[(33024,.box [x64,x64,x64,x64,x64,x64])]⟩)])]⟩
def TQ (N:Nat):Sig:=.of [Adz] [Af,Af] (fun a=>XB N a)
theorem Zl (N:Nat):Ad 237 (TQ N):=Ah (Ag [(197,NF N),(196,ND N)] fJ [] [] [] [9,13,14,18,19,23,24,28,29,38,42,46,47,51,52,56,57,61,62,66]) lI Tryz.f237 N (Ac ⟨PQ N,PO N,trivial⟩)
end
noncomputable section
def vM:List (Nat×Nrm):=[(3,⟨[],[],[],[],[]⟩),(10,⟨[3,7,8,9],[],[],[],[]⟩)]
def zI:Lk:=⟨[],[(10,⟨[(3,.c (.c (.ptr 33536 0))),(7,.i),(8,.i),(9,.c x64)],[(33536,.box [xs,x64,xs])]⟩,[(0,⟨[],[]⟩)])]⟩
def ZH (N:Nat):Sig:=.of [.cell false (.sl 73 Tq0),Sq1] [AL] (fun a=>Rk N a.1 a.2)
theorem lU (N:Nat):Ad 277 (ZH N):=Ah (Ag [(310,YN N)] vM) zI Tryz.f277 N (Ac ⟨kH N,trivial⟩)
def Ve:List (Nat×Nrm):=[(3,⟨[0,4],[],[(none,4,(.int .u8 .nil))],[],[]⟩),(13,⟨[0,1],[],[],[],[]⟩),(22,⟨[0,4],[],[(none,4,(.int .u8 .nil))],[],[41728]⟩)]
def WN:Lk:=⟨[(13,⟨[(0,.c (.c (.ptr 0 0))),(1,.i)],[(0,.box [(xi .u32),(xi .u32),(xi .u32),(xi .u32),(xi .u32),(xi .u32),(xi .u32),(xi .u32),(xl (.int .u8 .nil)),x64])]⟩)],[(22,⟨[(0,.c (.c (.ptr 0 0))),(4,.c (xl (.int .u8 .nil)))],[(0,.box [(xi .u32),(xi .u32),(xi .u32),(xi .u32),(xi .u32),(xi .u32),(xi .u32),(xi .u32),(xl (.int .u8 .nil)),x64])]⟩,[(0,⟨[(0,.c (.c (.ptr 0 0))),(4,.c (xl (.int .u8 .nil)))],[(0,.box [(xi .u32),(xi .u32),(xi .u32),(xi .u32),(xi .u32),(xi .u32),(xi .u32),(xi .u32),(xl (.int .u8 .nil)),x64])]⟩)])]⟩
def Lh (N:Nat):Sig:=.of [Sq4,Aj] [] (fun a=>FD N a.1 a.2)
theorem SB (N:Nat):Ad 283 (Lh N):=Ah (Ag [(312,LC N),(313,Hf N)] Ve) WN Tryz.f283 N (Ac ⟨Ou N,J3 N,trivial⟩)
def XX:List (Nat×Nrm):=[(3,⟨[3,4,5],[],[],[(41984,1008192),(1004096,1008192)],[1008192]⟩),(11,⟨[3,4],[],[],[],[]⟩),(19,⟨[3],[],[],[],[]⟩),(27,⟨[7],[],[],[],[]⟩),(29,⟨[3,4,5],[([4],5,(.int .u8 .nil),1000000)],[],[(41216,1000000)],[]⟩),(34,⟨[3,4,5],[],[],[(41984,1004096),(43776,1004096)],[]⟩),(46,⟨[3,4,5,6],[],[],[(47616,1008192)],[]⟩),(58,⟨[3,4],[],[(none,4,(.int .u8 .nil))],[],[]⟩),(78,⟨[7,68,69],[([7],5,(.int .u8 .nil),1028672)],[],[(54528,1028672)],[]⟩)]
def Zp:Lk:=⟨[(29,⟨[(3,.c (.c (.AV 33536 0 0))),(4,.c (xo 1000000)),(5,.c x64)],[(0,.box [(xi .u32),(xi .u32),(xi .u32),(xi .u32),(xi .u32),(xi .u32),(xi .u32),(xi .u32),(xl (.int .u8 .nil)),x64]),(33536,.arr 305 false (.int .u32 .nil)),(1000000,.arr 5 false (.int .u8 .nil))]⟩)],[(34,⟨[(3,.c (.c (.AV 33536 0 0))),(4,.c (xo 1004096)),(5,.i)],[(0,.box [(xi .u32),(xi .u32),(xi .u32),(xi .u32),(xi .u32),(xi .u32),(xi .u32),(xi .u32),(xl (.int .u8 .nil)),x64]),(33536,.arr 305 false (.int .u32 .nil)),(1004096,.arr 5 false (.int .u8 .nil))]⟩,[(0,⟨[(3,.c (.c (.AV 33536 0 0))),(4,.c (xo 1008192)),(5,.i)],[(0,.box [(xi .u32),(xi .u32),(xi .u32),(xi .u32),(xi .u32),(xi .u32),(xi .u32),(xi .u32),(xl (.int .u8 .nil)),x64]),(33536,.arr 305 false (.int .u32 .nil)),(1008192,.arr 5 true (.int .u8 .nil))]⟩)]),(46,⟨[(3,.c (.c (.AV 33536 0 0))),(4,.c (xo 1008192)),(5,.i),(6,.c x64)],[(0,.box [(xi .u32),(xi .u32),(xi .u32),(xi .u32),(xi .u32),(xi .u32),(xi .u32),(xi .u32),(xl (.int .u8 .nil)),x64]),(33536,.arr 305 false (.int .u32 .nil)),(1008192,.arr 5 true (.int .u8 .nil))]⟩,[(2,⟨[(3,.c (.c (.AV 33536 0 0))),(4,.c (xo 1008192))],[(0,.box [(xi .u32),(xi .u32),(xi .u32),(xi .u32),(xi .u32),(xi .u32),(xi .u32),(xi .u32),(xl (.int .u8 .nil)),x64]),(33536,.arr 305 false (.int .u32 .nil)),(1008192,.arr 5 true (.int .u8 .nil))]⟩)]),(58,⟨[(3,.c (.c (.AV 33536 0 0))),(4,.c (xl (.int .u8 .nil)))],[(0,.box [(xi .u32),(xi .u32),(xi .u32),(xi .u32),(xi .u32),(xi .u32),(xi .u32),(xi .u32),(xl (.int .u8 .nil)),x64]),(33536,.arr 305 false (.int .u32 .nil))]⟩,[(4,⟨[(3,.c (.c (.AV 33536 0 0)))],[(0,.box [(xi .u32),(xi .u32),(xi .u32),(xi .u32),(xi .u32),(xi .u32),(xi .u32),(xi .u32),(xl (.int .u8 .nil)),x64]),(33536,.arr 305 false (.int .u32 .nil))]⟩)]),(78,⟨[(7,.c (xo 1028672)),(68,.i),(69,.c x64)],[(0,.box [(xi .u32),(xi .u32),(xi .u32),(xi .u32),(xi .u32),(xi .u32),(xi .u32),(xi .u32),(xl (.int .u8 .nil)),x64]),(1028672,.arr 5 false (.int .u8 .nil))]⟩,[(6,⟨[(7,.c (xo 1028672))],[(0,.box [(xi .u32),(xi .u32),(xi .u32),(xi .u32),(xi .u32),(xi .u32),(xi .u32),(xi .u32),(xl (.int .u8 .nil)),x64]),(1028672,.arr 5 false (.int .u8 .nil))]⟩)])]⟩
def Ot (N:Nat):Sig:=.of [Sq4] [Aj] (fun a=>GH N a)
theorem Vd (N:Nat):Ad 284 (Ot N):=Ah (Ag [(312,LC N),(313,Hf N)] XX) Zp Tryz.f284 N (Ac ⟨Ou N,J3 N,trivial⟩)
def ZT (N:Nat):Sig:=.of [Af] [Aj] (fun a=>MV N a)
theorem mZ (N:Nat):Ad 23 (ZT N):=Ah (Ag [(54,kC N),(53,aC N)] []) ⟨[],[]⟩ Tryz.f23 N (Ac ⟨sQ N,nS N,trivial⟩)
def SL (N:Nat):Sig:=.of [Aj] [AL] (fun a=>Yr N a)
theorem Ui (N:Nat):Ad 148 (SL N):=Ah (Ag [(192,Vy N)] []) ⟨[],[]⟩ Tryz.f148 N (Ac ⟨Wp N,trivial⟩)
def oU (N n:Nat):Sig:=.of [.cell false (.int .u8)] [.cell false .bool] (Aaw N n)
theorem Aba (N:Nat):UA Tryz.prog (oU N):=Aax (pars:=[.cell false (.int .u8)]) (ress:=[.cell false .bool]) (l:=[(207,fun a=>QF N a),(210,fun a=>QG N a)]) ⟨Z8 N,Z9 N,trivial⟩
def zT:List (Nat×Nrm):=[(3,⟨[],[],[],[],[]⟩),(18,⟨[9,10,11],[],[],[],[]⟩)]
def Abr:Lk:=⟨[],[(18,⟨[(9,.i),(10,.i),(11,.c x64)],[]⟩,[(0,⟨[],[]⟩)])]⟩
def JV (N:Nat):Sig:=.of [Aj] [AL] (fun a=>F8 N a)
theorem IV (N:Nat):Ad 269 (JV N):=Ah (Ag [(256,GL N),(303,Yc N)] zT) Abr Tryz.f269 N (Ac ⟨Nr N,iL N,trivial⟩)
def Dp (N:Nat):Sig:=.of [.box [(false,.bool)],Sq8] [Aj] (fun a=>C9 N a.1 a.2)
theorem Df (N:Nat):Ad 75 (Dp N):=Ah (Ag [(81,BL N)] []) ⟨[],[]⟩ Tryz.f75 N (Ac ⟨BF N,trivial⟩)
end
noncomputable section
def qU:List (Nat×Nrm):=[(3,⟨[],[],[],[],[]⟩),(18,⟨[0,1,12,13],[],[],[],[]⟩)]
def vN:Lk:=⟨[],[(18,⟨[(0,.i),(1,.i),(12,.i),(13,.c x64)],[]⟩,[(0,⟨[],[]⟩)])]⟩
def XH (N:Nat):Sig:=.of [.cell false (.sl 73 Tq0),.cell false (.sl 73 Tq0)] [AL] (fun a=>gB N a.1 a.2)
theorem gG (N:Nat):Ad 217 (XH N):=Ah (Ag [(277,ZH N)] qU) vN Tryz.f217 N (Ac ⟨lU N,trivial⟩)
def zS:List (Nat×Nrm):=[(3,⟨[3],[],[],[],[]⟩),(14,⟨[3,7,8,9],[],[],[],[]⟩)]
def Abq:Lk:=⟨[],[(14,⟨[(3,.c (.c (.ptr 34304 0))),(7,.i),(8,.i),(9,.c x64)],[(34304,.box [(xi .u32),(xi .u32),(xi .u32),(xi .u32),(xi .u32),(xi .u32),(xi .u32),(xi .u32),(xl (.int .u8 .nil)),x64])]⟩,[(0,⟨[(3,.c (.c (.ptr 34304 0)))],[(34304,.box [(xi .u32),(xi .u32),(xi .u32),(xi .u32),(xi .u32),(xi .u32),(xi .u32),(xi .u32),(xl (.int .u8 .nil)),x64])]⟩)])]⟩
def iG (N:Nat):Sig:=.of [Sq8] [Aj] (fun a=>Vf N a)
theorem qY (N:Nat):Ad 229 (iG N):=Ah (Ag [(282,XW N),(283,Lh N),(284,Ot N)] zS) Abq Tryz.f229 N (Ac ⟨iF N,SB N,Vd N,trivial⟩)
def Aan:List (Nat×Nrm):=[(3,⟨[],[],[],[],[]⟩),(10,⟨[0,1,5],[],[],[],[]⟩)]
def AbX:Lk:=⟨[],[(10,⟨[(0,.i),(1,.i),(5,.c x64)],[]⟩,[(0,⟨[],[]⟩)])]⟩
def kK (N:Nat):Sig:=.of [Aj,.cell false .fn] [AL] (fun a=>dM N a.1 a.2)
theorem sZ (N:Nat):Ad 206 (kK N):=Ah (Ag [] Aan [] [(12,oU N)]) AbX Tryz.f206 N (Ac trivial trivial ⟨Aba N,trivial⟩)
def SC (N:Nat):Sig:=.of [Aj] [AL] (fun a=>MR N a)
theorem Ua (N:Nat):Ad 212 (SC N):=Ah (Ag [(271,WB N),(272,Yd N),(269,JV N)] [] [] [] [] [13,17,18,21,22,25]) ⟨[],[]⟩ Tryz.f212 N (Ac ⟨dJ N,iM N,IV N,trivial⟩)
def ZP (N:Nat):Sig:=.of [Aj] [AL] (fun a=>XZ N a)
theorem mP (N:Nat):Ad 213 (ZP N):=Ah (Ag [(269,JV N)] []) ⟨[],[]⟩ Tryz.f213 N (Ac ⟨IV N,trivial⟩)
def Ub (N:Nat):Sig:=.of [Aj] [AL] (fun a=>Qg N a)
theorem Zr (N:Nat):Ad 214 (Ub N):=Ah (Ag [(273,Lr N),(269,JV N),(274,Hu N)] []) ⟨[],[]⟩ Tryz.f214 N (Ac ⟨Tm N,IV N,J8 N,trivial⟩)
def qM:List (Nat×Nrm):=[(3,⟨[2,4,5,6],[],[],[],[]⟩),(11,⟨[2,4,5,6,7],[],[],[],[]⟩),(22,⟨[2,4,5,6],[],[],[],[]⟩),(38,⟨[2,4,5,6,7],[],[],[],[]⟩)]
def vJ:Lk:=⟨[],[(22,⟨[(2,.c (.c (.ptr 33280 0))),(4,.i),(5,.i),(6,.c x64)],[(33280,.box [(.c (.int .i64 0)),(.c (.int .i64 0)),(.c (.int .i64 0)),(.c (.int .i64 0)),(.c (.int .i64 0)),(.c (.int .i64 0))])]⟩,[(0,⟨[(2,.c (.c (.ptr 33280 0))),(4,.i),(5,.i),(6,.c x64)],[(33280,.box [(.c (.int .i64 0)),(.c (.int .i64 0)),(.c (.int .i64 0)),(.c (.int .i64 0)),(.c (.int .i64 0)),(.c (.int .i64 0))])]⟩)]),(38,⟨[(2,.c (.c (.ptr 33280 0))),(4,.c x64),(5,.i),(6,.i),(7,.c x64)],[(33280,.box [(.c (.int .i64 0)),(.c (.int .i64 0)),(.c (.int .i64 0)),(.c (.int .i64 0)),(.c (.int .i64 0)),(.c (.int .i64 0))])]⟩,[(2,⟨[(2,.c (.c (.ptr 33280 0))),(4,.c x64),(5,.i),(6,.i),(7,.c x64)],[(33280,.box [(.c (.int .i64 0)),(.c (.int .i64 0)),(.c (.int .i64 0)),(.c (.int .i64 0)),(.c (.int .i64 0)),(.c (.int .i64 0))])]⟩)])]⟩
def XA (N:Nat):Sig:=.of [Af] [Adz,Af] (fun a=>fG N a)
theorem fH (N:Nat):Ad 139 (XA N):=Ah (Ag [(196,ND N),(197,NF N)] qM) vJ Tryz.f139 N (Ac ⟨PO N,PQ N,trivial⟩)
def aK (N:Nat):Sig:=.of [Aj] [Af] (fun a=>qC N a)
theorem o9 (N:Nat):Ad 199 (aK N):=Ah (Ag [(162,J9 N),(265,YQ N)] []) ⟨[],[]⟩ Tryz.f199 N (Ac ⟨Hw N,kP N,trivial⟩)
end
