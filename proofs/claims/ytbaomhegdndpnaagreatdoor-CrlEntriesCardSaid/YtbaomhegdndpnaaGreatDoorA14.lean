import Derived.Test.YtbaomhegdndpnaaGreatDoorA12
import Derived.Test.YtbaomhegdndpnaaGreatDoorA13
set_option linter.all false
namespace Go.Proofs.YtbaomhegdndpnaaGreatDoor.Vm
noncomputable section
variable (N:Nat)
open Go.Proofs
def YI (N n:Nat):Sig:=.of [.cell false (.int .i64)] [.cell false .str] (fun a=>VM N n a)
theorem ZU (N:Nat): ∀ n,Spec Tryz.prog 34 (YI N n)
  | 0=>wE (C:=ctx Tryz.prog [] []) (fn:=Tryz.f34) (CZ (gs:=[]) trivial) (by kernel_rfl) (by kernel_rfl)
  | n+1=>Vr (C:=ctx Tryz.prog ((34,YI N n)::[]) []) (L:=⟨[],[]⟩) (fn:=Tryz.f34) (N:=N) (CZ ⟨ZU N n,trivial⟩)
def bU:Sig:=YI N N
theorem gI:Spec Tryz.prog 34 (bU N):=ZU N N
def AiQ:List (Nat×Nrm):=[(3,⟨[3],[([3],5,Ar,1012288)],[],[(1000000,1012288)],[]⟩),(18,⟨[3,4,8,9,10],[([3],5,Ar,1000000)],[],[(41472,1000000)],[]⟩),(45,⟨[3,4,6,8,9,10],[([3],5,Ar,1004096)],[],[(38400,1004096),(1000000,1004096)],[]⟩),(53,⟨[3,4,6,8,9,10],[([3],5,Ar,1008192)],[],[(1004096,1008192)],[]⟩)]
def AjT:Lk:=⟨[(45,⟨[(3,.c (xo 1004096)),(4,.c xb),(6,.i),(8,.c (xo 34816)),(9,.i),(10,.i)],[(34816,.arr 5 false Ar),(1004096,.arr 5 false Ar)]⟩),(53,⟨[(3,.c (xo 1008192)),(4,.i),(6,.c x8),(8,.c (xo 34816)),(9,.i),(10,.i)],[(34816,.arr 5 false Ar),(1008192,.arr 5 false Ar)]⟩)],[(18,⟨[(3,.c (xo 1000000)),(4,.c xb),(8,.c (xo 34816)),(9,.i),(10,.c x64)],[(34816,.arr 5 false Ar),(1000000,.arr 5 false Ar)]⟩,[(0,⟨[(3,.c (xo 1012288))],[(1012288,.arr 5 false Ar)]⟩)])]⟩
def Aau:Sig:=.of [Dn] [Dn] (fun a=>wM N a)
theorem Afb:Dc 335 (Aau N):=Di (Dh [] AiQ) AjT Tryz.f335 N (CZ trivial)
def AbQ:List (Nat×Nrm):=[(3,⟨[2,3],[([3],74,Aq,1004096)],[],[(1000000,1004096)],[]⟩),(14,⟨[2,3,7,8,9],[([3],74,Aq,1000000)],[],[(37120,1000000)],[]⟩)]
def AdI:Lk:=⟨[],[(14,⟨[(2,.c AB),(3,.c (xo 1000000)),(7,.i),(8,.i),(9,.c x64)],[(33280,.box BC),(33281,.DU 74 false Aq),(1000000,.arr 74 false Aq)]⟩,[(0,⟨[(2,.c AB),(3,.c (xo 1004096))],[(33280,.box BC),(33281,.DU 74 false Aq),(1004096,.arr 74 false Aq)]⟩)])]⟩
def Uy:Sig:=.of [Sq0] [Sq0] (fun a=>LV N a)
theorem WU:Dc 50 (Uy N):=Di (Dh [] AbQ) AdI Tryz.f50 N (CZ trivial)
def qG:Sig:=.of [Df] [Df] (fun a=>P5 N a)
theorem qH:Dc 20 (qG N):=Di (Dh [] []) ⟨[],[]⟩ Tryz.f20 N (CZ trivial)
def rY:Sig:=.of [] [Sq4] (fun _=>Ac0 N)
theorem Ac1:Dc 282 (rY N):=Di (Dh [] []) ⟨[],[]⟩ Tryz.f282 N (CZ trivial)
def UB:Sig:=.of [] [Sq5] (fun _=>SN N)
theorem Xb:Dc 312 (UB N):=Di (Dh [] []) ⟨[],[]⟩ Tryz.f312 N (CZ trivial)
def zS:Sig:=.of [.cell false (.int .u32),.cell false (.int .u64)] [.cell false (.int .u32)] (fun a=>IX N a.1 a.2)
theorem Aeo:Dc 337 (zS N):=Di (Dh [] []) ⟨[],[]⟩ Tryz.f337 N (CZ trivial)
def mJ:Sig:=.of [] [Sq6] (fun _=>zQ N)
theorem AaM:Dc 338 (mJ N):=Di (Dh [] []) ⟨[],[]⟩ Tryz.f338 N (CZ trivial)
def AeT:List (Nat×Nrm):=[(3,⟨[],[],[],[],[]⟩),(26,⟨[0,3,4,5],[],[],[],[]⟩)]
def Ag6:Lk:=⟨[],[(26,⟨[(0,.i),(3,.i),(4,.c xb),(5,.c x64)],[]⟩,[(0,⟨[],[]⟩)])]⟩
def nM:Sig:=.of [Dn] [DK] (fun a=>bW N a)
theorem Abt:Dc 226 (nM N):=Di (Dh [] AeT [] [] [] [37,39,40,43,54,55]) Ag6 Tryz.f226 N (CZ trivial)
def ZY:Sig:=.of [Dn] [DK] (fun a=>WH N a)
theorem uV:Dc 227 (ZY N):=Di (Dh [] []) ⟨[],[]⟩ Tryz.f227 N (CZ trivial)
def AeM:List (Nat×Nrm):=[(3,⟨[3],[],[],[],[]⟩),(14,⟨[3,8,9],[],[],[],[]⟩)]
def Agy:Lk:=⟨[],[(14,⟨[(3,.c (xo 34304)),(8,.i),(9,.c x64)],[(34304,.arr 5 false Ar)]⟩,[(0,⟨[(3,.c (xo 34304))],[(34304,.arr 5 false Ar)]⟩)])]⟩
def nD:Sig:=.of [Dn] [Dn] (fun a=>Aan N a)
theorem Abn:Dc 336 (nD N):=Di (Dh [] AeM) Agy Tryz.f336 N (CZ trivial)
def iE:Sig:=.of [Df] [DK] (fun a=>MF N a)
theorem yY:Dc 95 (iE N):=Di (Dh [] [] [] [] [] [5,8,9,12,15,16]) ⟨[],[]⟩ Tryz.f95 N (CZ trivial)
def AcN:Sig:=.of [Ahk] [pJ] (fun a=>AaT N a)
theorem Agg:Dc 14 (AcN N):=Di (Dh [] []) ⟨[],[]⟩ Tryz.f14 N (CZ trivial)
def Hm:Sig:=.of [pJ,Df] [Df] (fun a=>DF N a.1 a.2)
theorem G9:Dc 16 (Hm N):=Di (Dh [] []) ⟨[],[]⟩ Tryz.f16 N (CZ trivial)
def Ag1:List (Nat×Nrm):=[(3,⟨[0,6],[],[],[],[]⟩),(22,⟨[0,6,22,23,24],[],[],[],[]⟩),(77,⟨[6,10],[],[],[(43008,1008192),(46592,1008192),(49408,1008192),(51456,1008192)],[]⟩)]
def Ai8:Lk:=⟨[(77,⟨[(6,.i),(10,.c (xo 1008192))],[(1008192,.arr 5 false Ar)]⟩)],[(22,⟨[(0,.i),(6,.c xs),(22,.i),(23,.i),(24,.c x64)],[]⟩,[(0,⟨[(0,.i),(6,.c xs)],[]⟩)])]⟩
def TS:Sig:=.of [Df,Sq8] [Dn,Df] (fun a=>Nl N a.1 a.2)
theorem TT:Dc 132 (TS N):=Di (Dh [] Ag1) Ai8 Tryz.f132 N (CZ trivial)
def AeO:List (Nat×Nrm):=[(3,⟨[3],[([3],9,Au,1012288)],[],[(1000000,1012288)],[]⟩),(11,⟨[3,5,6,10,11,12],[([3],9,Au,1008192)],[],[(1004096,1008192)],[1008192]⟩),(14,⟨[3,10,11,12],[([3],9,Au,1000000)],[],[(43008,1000000)],[]⟩),(19,⟨[7],[],[],[],[]⟩),(26,⟨[3,5,6,10,11,12],[([3],9,Au,1004096)],[],[(1000000,1004096)],[]⟩),(50,⟨[7,42,43,44],[],[],[],[]⟩)]
def Agz:Lk:=⟨[],[(14,⟨[(3,.c (xo 1000000)),(10,.i),(11,.i),(12,.c x64)],[(1000000,.arr 9 false Au)]⟩,[(0,⟨[(3,.c (xo 1012288))],[(1012288,.arr 9 false Au)]⟩)]),(26,⟨[(3,.c (xo 1004096)),(5,.i),(6,.c x64),(10,.i),(11,.i),(12,.i)],[(1004096,.arr 9 false Au)]⟩,[(2,⟨[(3,.c (xo 1008192)),(5,.i),(6,.c x64),(10,.i),(11,.i),(12,.i)],[(1008192,.arr 9 true Au)]⟩)]),(50,⟨[(7,.c xs),(42,.c (xo 1012288)),(43,.i),(44,.c x64)],[(1012288,.arr 9 false Au)]⟩,[(4,⟨[(7,.c xs)],[]⟩)])]⟩
def nG:Sig:=.of [Sq8] [Dn] (fun a=>Vl N a)
theorem Abp:Dc 180 (nG N):=Di (Dh [] AeO) Agz Tryz.f180 N (CZ trivial)
def gQ:Sig:=.of [Df] [Df] (fun a=>YM N a)
theorem yR:Dc 249 (gQ N):=Di (Dh [] []) ⟨[],[]⟩ Tryz.f249 N (CZ trivial)
def uT:Sig:=.of [Df,Df] [Df] (fun a=>lC N a.1 a.2)
theorem Adn:Dc 250 (uT N):=Di (Dh [] [] [] [] [] [7,11,12,16,20,21]) ⟨[],[]⟩ Tryz.f250 N (CZ trivial)
def oK:List (Nat×Nrm):=[(3,⟨[4],[],[],[],[]⟩),(11,⟨[4],[],[(none,4,Ar)],[],[]⟩),(18,⟨[3,4,5],[([4],5,Ar,1000000)],[],[(37632,1000000)],[]⟩),(30,⟨[4],[],[(none,4,Ar)],[],[]⟩)]
def uQ:Lk:=⟨[],[(18,⟨[(3,.i),(4,.c (xo 1000000)),(5,.c x64)],[(1000000,.arr 5 false Ar)]⟩,[(0,⟨[(4,.c (xo 1000000))],[(1000000,.arr 5 false Ar)]⟩)]),(30,⟨[(4,.c Bg)],[]⟩,[(2,⟨[(4,.c Bg)],[]⟩)])]⟩
def VO:Sig:=.of [Df] [Dn] (fun a=>Nk N a)
theorem gK:Dc 190 (VO N):=Di (Dh [] oK [] [] [] [23,28,33,34,39,44,45,46]) uQ Tryz.f190 N (CZ trivial)
def AgA:List (Nat×Nrm):=[(3,⟨[4],[],[],[],[]⟩),(10,⟨[1,4,8,9,10],[],[],[],[]⟩)]
def AiF:Lk:=⟨[],[(10,⟨[(1,.i),(4,.c AP),(8,.i),(9,.i),(10,.c x64)],[(33792,.box [A8,AA,A8])]⟩,[(0,⟨[(4,.c AP)],[(33792,.box [A8,AA,A8])]⟩)])]⟩
def vK:Sig:=.of [.cell false (.sl 183 Tq4),Dn] [Ahj,DK] (fun a=>XA N a.1 a.2)
theorem Ads:Dc 317 (vK N):=Di (Dh [] AgA) AiF Tryz.f317 N (CZ trivial)
def Ag0:List (Nat×Nrm):=[(3,⟨[0,2,5,6,8],[],[],[],[]⟩),(70,⟨[0,2,5,6,8,9],[],[],[],[]⟩),(97,⟨[0,2,5,6,7],[],[],[],[]⟩)]
def Ai6:Lk:=⟨[(97,⟨[(0,.i),(2,.c AB),(5,.c AQ),(6,.c x64),(7,.c x64)],[(33280,.box BB),(34048,.box BB)]⟩)],[(70,⟨[(0,.i),(2,.c AB),(5,.c AQ),(6,.c x64),(8,.i),(9,.c x64)],[(33280,.box BB),(34048,.box BB)]⟩,[(0,⟨[(0,.i),(2,.c AB),(5,.c AQ),(6,.c x64),(8,.i)],[(33280,.box BB),(34048,.box BB)]⟩)])]⟩
def YK:Sig:=.of [Dn] [KD,Dn,Df] (fun a=>TQ N a)
theorem ZW:Dc 131 (YK N):=Di (Dh [] Ag0) Ai6 Tryz.f131 N (CZ trivial)
def Ky:Sig:=.of [Sq9] [DK] (fun a=>Gz N a)
theorem Lu:Dc 119 (Ky N):=Di (Dh [] []) ⟨[],[]⟩ Tryz.f119 N (CZ trivial)
def AeS:List (Nat×Nrm):=[(3,⟨[0,5,6],[],[],[],[]⟩),(11,⟨[0,5,6],[],[],[],[]⟩),(18,⟨[0,1,5,6,7],[],[],[],[]⟩),(19,⟨[0,13,14,15,16,17,18,19,20],[],[],[],[]⟩),(34,⟨[0,5,6,8],[],[],[],[]⟩),(66,⟨[0,5,6,13,14,15,16,17,18,19,20,21],[],[],[],[]⟩)]
def Ag4:Lk:=⟨[],[(18,⟨[(0,.i),(1,.i),(5,.c (xo 39424)),(6,.c (.c (.Ea 34304 0 0))),(7,.c x64)],[(34304,.arr 205 false Az),(39424,.arr 143 false Az)]⟩,[(0,⟨[(0,.i),(5,.c (xo 39424)),(6,.c (.c (.Ea 34304 0 0)))],[(34304,.arr 205 false Az),(39424,.arr 143 false Az)]⟩)]),(34,⟨[(0,.i),(5,.c (xo 39424)),(6,.c (.c (.Ea 34304 0 0))),(8,.c x64)],[(34304,.arr 205 false Az),(39424,.arr 143 false Az)]⟩,[(2,⟨[(0,.i),(5,.c (xo 39424)),(6,.c (.c (.Ea 34304 0 0)))],[(34304,.arr 205 false Az),(39424,.arr 143 false Az)]⟩)]),(66,⟨[(0,.i),(5,.c (xo 39424)),(6,.c (.c (.Ea 34304 0 0))),(13,.c Ba),(14,.c Ba),(15,.c Ba),(16,.c Ba),(17,.c Ba),(18,.c Ba),(19,.c Ba),(20,.c Ba),(21,.c x64)],[(34304,.arr 205 false Az),(39424,.arr 143 false Az)]⟩,[(4,⟨[(0,.i),(13,.c Ba),(14,.c Ba),(15,.c Ba),(16,.c Ba),(17,.c Ba),(18,.c Ba),(19,.c Ba),(20,.c Ba)],[]⟩)])]⟩
def nK:Sig:=.of [Ar0,Dn] [Ar0] (fun a=>Aaq N a.1 a.2)
theorem Abs:Dc 100 (nK N):=Di (Dh [] AeS) Ag4 Tryz.f100 N (CZ trivial)
def Adr:Sig:=.of [Df] [Dn] (fun a=>AiE N a)
theorem Ag9:Dc 54 (Adr N):=Di (Dh [] []) ⟨[],[]⟩ Tryz.f54 N (CZ trivial)
def AlT:List (Nat×Nrm):=[(3,⟨[3],[],[],[],[]⟩),(22,⟨[0,3,4],[],[],[],[]⟩)]
def AnL:Lk:=⟨[],[(22,⟨[(0,.i),(3,.c x64),(4,.c x64)],[]⟩,[(0,⟨[(3,.c x64)],[]⟩)])]⟩
def AfA:Sig:=.of [Dn] [Df] (fun a=>Aku N a)
theorem Aiq:Dc 257 (AfA N):=Di (Dh [] AlT [] [] [] [7,11,12,16,20,21]) AnL Tryz.f257 N (CZ trivial)
def AcV:Sig:=.of [Df,Df] [DK] (fun a=>Ais N a.1 a.2)
theorem Agn:Dc 258 (AcV N):=Di (Dh [] []) ⟨[],[]⟩ Tryz.f258 N (CZ trivial)
def nV:Sig:=.of [.cell false (.int .u8)] [DK] (fun a=>Aav N a)
theorem Ab6:Dc 208 (nV N):=Di (Dh [] [] [] [] [] [5,8,9,12,15,16,17,20,23,24]) ⟨[],[]⟩ Tryz.f208 N (CZ trivial)
def Afd:Sig:=.of [.cell false (.int .u8)] [DK] (fun a=>Zb N a)
theorem zB:Dc 210 (Afd N):=Di (Dh [] []) ⟨[],[]⟩ Tryz.f210 N (CZ trivial)
def iY:Sig:=.of [Df,Df,Df] [DK] (fun a=>IB N a.1 a.2.1 a.2.2)
theorem mF:Dc 36 (iY N):=Di (Dh [] []) ⟨[],[]⟩ Tryz.f36 N (CZ trivial)
def Acx:Sig:=.of [Df] [Df] (fun a=>AaL N a)
theorem AfZ:Dc 150 (Acx N):=Di (Dh [] []) ⟨[],[]⟩ Tryz.f150 N (CZ trivial)
def Wy:Sig:=.of [.cell false (.int .u8)] [DK] (fun a=>bD N a)
theorem Yy:Dc 306 (Wy N):=Di (Dh [] [] [] [] [] [5,8,9,12,15,16]) ⟨[],[]⟩ Tryz.f306 N (CZ trivial)
def Yx:Sig:=.of [.cell false (.int .u8)] [DK] (fun a=>X3 N a)
theorem ZH:Dc 307 (Yx N):=Di (Dh [] []) ⟨[],[]⟩ Tryz.f307 N (CZ trivial)
def mM:Sig:=.of [Dn] [Dn,Dn] (fun a=>zU N a)
theorem AaN:Dc 275 (mM N):=Di (Dh [] []) ⟨[],[]⟩ Tryz.f275 N (CZ trivial)
def Ac5:Sig:=.of [Dn,Df] [DK] (fun a=>jR N a.1 a.2)
theorem Agc:Dc 276 (Ac5 N):=Di (Dh [] []) ⟨[],[]⟩ Tryz.f276 N (CZ trivial)
def fB:Sig:=.of [Dn] [DK] (fun a=>Yv N a)
theorem yI:Dc 216 (fB N):=Di (Dh [] []) ⟨[],[]⟩ Tryz.f216 N (CZ trivial)
def dS:Sig:=.of [Sq2] [DK] (fun a=>Sz N a)
theorem y9:Dc 90 (dS N):=Di (Dh [] []) ⟨[],[]⟩ Tryz.f90 N (CZ trivial)
def FX:Sig:=.of [.box [(false,.bool)],Dn,Df] [Dn] (fun a=>DN N a.1 a.2.1 a.2.2)
theorem FP:Dc 78 (FX N):=Di (Dh [] []) ⟨[],[]⟩ Tryz.f78 N (CZ trivial)
def yK:List (Nat×Nrm):=[(17,⟨[0,2,3],[],[],[],[]⟩)]
def AaS:Lk:=⟨[(17,⟨[(0,.i),(2,.c AB),(3,.c xs)],[(33280,.box BC),(33281,.DU 74 false Aq)]⟩)],[]⟩
def JR:Sig:=.of [Df] [Sq0] (fun a=>Ef N a)
theorem Kw:Dc 8 (JR N):=Di (Dh [(34,bU N)] yK) AaS Tryz.f8 N (CZ ⟨gI N,trivial⟩)
def wO:Sig:=.of [Dn,Dn] [DK] (fun a=>lV N a.1 a.2)
theorem Ady:Dc 310 (wO N):=Di (Dh [(335,Aau N)] []) ⟨[],[]⟩ Tryz.f310 N (CZ ⟨Afb N,trivial⟩)
def o9:List (Nat×Nrm):=[(3,⟨[2,4,5],[],[],[],[]⟩),(11,⟨[2,4,5],[],[],[],[]⟩),(14,⟨[1,2,4,5,6],[],[],[],[]⟩),(19,⟨[2,4,11],[],[],[],[]⟩),(27,⟨[4,11],[],[],[],[]⟩),(30,⟨[2,4,5,7],[],[],[],[]⟩),(62,⟨[2,4,5,10,11,12],[],[],[],[]⟩),(98,⟨[2,4,11,204],[],[],[],[]⟩)]
def sD:Lk:=⟨[],[(14,⟨[(1,.i),(2,.c (.c (.Ea 33280 0 0))),(4,.c (.c (.Ea 33792 0 0))),(5,.c (.c (.Ea 34048 0 0))),(6,.c x64)],[(33280,.arr 305 false Az),(33792,.arr 305 false Az),(34048,.arr 205 false Az)]⟩,[(0,⟨[(2,.c (.c (.Ea 33280 0 0))),(4,.c (.c (.Ea 33792 0 0))),(5,.c (.c (.Ea 34048 0 0)))],[(33280,.arr 305 false Az),(33792,.arr 305 false Az),(34048,.arr 205 false Az)]⟩)]),(30,⟨[(2,.c (.c (.Ea 33280 0 0))),(4,.c (.c (.Ea 33792 0 0))),(5,.c (.c (.Ea 34048 0 0))),(7,.c x64)],[(33280,.arr 305 false Az),(33792,.arr 305 false Az),(34048,.arr 205 false Az)]⟩,[(2,⟨[(2,.c (.c (.Ea 33280 0 0))),(4,.c (.c (.Ea 33792 0 0))),(5,.c (.c (.Ea 34048 0 0)))],[(33280,.arr 305 false Az),(33792,.arr 305 false Az),(34048,.arr 205 false Az)]⟩)]),(62,⟨[(2,.c (.c (.Ea 33280 0 0))),(4,.c (.c (.Ea 33792 0 0))),(5,.c (.c (.Ea 34048 0 0))),(10,.c (.c (.Ea 35328 0 0))),(11,.c (.c (.Ea 35584 0 0))),(12,.c x64)],[(33280,.arr 305 false Az),(33792,.arr 305 false Az),(34048,.arr 205 false Az),(35328,.arr 205 false Az),(35584,.arr 305 false Az)]⟩,[(4,⟨[(2,.c (.c (.Ea 33280 0 0))),(4,.c (.c (.Ea 33792 0 0))),(11,.c (.c (.Ea 35584 0 0)))],[(33280,.arr 305 false Az),(33792,.arr 305 false Az),(35584,.arr 305 false Az)]⟩)]),(98,⟨[(2,.c (.c (.Ea 33280 0 0))),(4,.c (.c (.Ea 33792 0 0))),(11,.c (.c (.Ea 35584 0 0))),(204,.c x64)],[(33280,.arr 305 false Az),(33792,.arr 305 false Az),(35584,.arr 305 false Az)]⟩,[(6,⟨[(4,.c (.c (.Ea 33792 0 0))),(11,.c (.c (.Ea 35584 0 0)))],[(33792,.arr 305 false Az),(35584,.arr 305 false Az)]⟩)])]⟩
def OE:Sig:=.of [Sq5,Sq7] [Sq5] (fun a=>JO N a.1 a.2)
theorem Ry:Dc 313 (OE N):=Di (Dh [(337,zS N),(338,mJ N)] o9) sD Tryz.f313 N (CZ ⟨Aeo N,AaM N,trivial⟩)
def J7:Sig:=.of [Sq9] [Df] (fun a=>FI N a)
theorem KE:Dc 99 (J7 N):=Di (Dh [(119,Ky N)] []) ⟨[],[]⟩ Tryz.f99 N (CZ ⟨Lu N,trivial⟩)
def Ai7:List (Nat×Nrm):=[(3,⟨[3],[],[],[],[]⟩),(11,⟨[3,6,9],[],[],[],[]⟩),(14,⟨[3,15,16,17],[],[],[],[]⟩),(19,⟨[6],[],[(none,6,Az)],[],[]⟩),(27,⟨[12],[],[],[(51456,1032768),(1028672,1032768)],[]⟩),(49,⟨[3,6,7,8],[],[],[],[]⟩),(62,⟨[3,6,7,9,10],[],[],[],[]⟩),(82,⟨[3,6,11],[],[(none,6,Az)],[],[]⟩),(102,⟨[12,74,75,76],[],[],[(51456,1028672),(56576,1028672)],[]⟩)]
def AjI:Lk:=⟨[(49,⟨[(3,.i),(6,.c (xo 39168)),(7,.i),(8,.c x64)],[(39168,.arr 143 false Az)]⟩)],[(14,⟨[(3,.c xs),(15,.i),(16,.i),(17,.c x64)],[]⟩,[(0,⟨[(3,.c xs)],[]⟩)]),(62,⟨[(3,.i),(6,.c (xo 39168)),(7,.i),(9,.c (xo 41984)),(10,.c x64)],[(39168,.arr 143 false Az),(41984,.arr 5 false Ar)]⟩,[(2,⟨[(3,.i),(6,.c (xo 39168)),(9,.c (xo 41984))],[(39168,.arr 143 false Az),(41984,.arr 5 false Ar)]⟩)]),(82,⟨[(3,.i),(6,.c (xl Az)),(11,.c x64)],[]⟩,[(4,⟨[(6,.c (xl Az))],[]⟩)]),(102,⟨[(12,.c (xo 1028672)),(74,.i),(75,.i),(76,.c x64)],[(1028672,.arr 5 false Ar)]⟩,[(6,⟨[(12,.c (xo 1032768))],[(1032768,.arr 5 false Ar)]⟩)])]⟩
def Aao:Sig:=.of [Sq8] [Dn] (fun a=>AfE N a)
theorem AeP:Dc 53 (Aao N):=Di (Dh [(100,nK N)] Ai7) AjI Tryz.f53 N (CZ ⟨Abs N,trivial⟩)
def AjD:List (Nat×Nrm):=[(3,⟨[4],[([4],3,Aw,1004096)],[],[(1000000,1004096)],[]⟩),(26,⟨[4,18,19,20],[([4],3,Aw,1000000)],[],[(40704,1000000)],[]⟩)]
def AlU:Lk:=⟨[],[(26,⟨[(4,.c (xo 1000000)),(18,.i),(19,.i),(20,.c x64)],[(1000000,.arr 3 false Aw)]⟩,[(0,⟨[(4,.c (xo 1004096))],[(1004096,.arr 3 false Aw)]⟩)])]⟩
def kK:Sig:=.of [Dn] [Atm] (fun a=>Abb N a)
theorem mV:Dc 192 (kK N):=Di (Dh [(256,Oo N),(257,AfA N),(258,AcV N)] AjD) AlU Tryz.f192 N (CZ ⟨VU N,Aiq N,Agn N,trivial⟩)
def Afc:Sig:=.of [.cell false (.int .u8)] [DK] (fun a=>Za N a)
theorem zA:Dc 207 (Afc N):=Di (Dh [(208,nV N),(209,NZ N)] []) ⟨[],[]⟩ Tryz.f207 N (CZ ⟨Ab6 N,QD N,trivial⟩)
def Agd:List (Nat×Nrm):=[(3,⟨[],[],[],[],[]⟩),(18,⟨[27,28,29],[],[],[],[]⟩)]
def AhU:Lk:=⟨[],[(18,⟨[(27,.c (xo 39680)),(28,.i),(29,.c x64)],[(39680,.arr 5 false Ar)]⟩,[(0,⟨[],[]⟩)])]⟩
def sJ:Sig:=.of [Dn] [DK] (fun a=>Ac6 N a)
theorem Ac7:Dc 303 (sJ N):=Di (Dh [(306,Wy N),(307,Yx N)] Agd [] [] [] [8,12,13,17,18,25]) AhU Tryz.f303 N (CZ ⟨Yy N,ZH N,trivial⟩)
def AiA:List (Nat×Nrm):=[(3,⟨[5],[],[],[],[]⟩),(10,⟨[1,5],[],[],[],[]⟩)]
def AjJ:Lk:=⟨[],[(10,⟨[(1,.i),(5,.c xs)],[]⟩,[(0,⟨[(5,.c xs)],[]⟩)])]⟩
def Aap:Sig:=.of [Df,Df] [Dn] (fun a=>MJ N a.1 a.2)
theorem AeR:Dc 183 (Aap N):=Di (Dh [(34,bU N)] AiA) AjJ Tryz.f183 N (CZ ⟨gI N,trivial⟩)
def NP:Sig:=.of [Df,Sq8] [Dn,Df] (fun a=>ED N a.1 a.2)
theorem MC:Dc 125 (NP N):=Di (Dh [(132,TS N)] []) ⟨[],[]⟩ Tryz.f125 N (CZ ⟨TT N,trivial⟩)
def bV:Sig:=.of [Dn] [KD,Df] (fun a=>VN N a)
theorem gJ:Dc 70 (bV N):=Di (Dh [(131,YK N)] []) ⟨[],[]⟩ Tryz.f70 N (CZ ⟨ZW N,trivial⟩)
def AeQ:List (Nat×Nrm):=[(3,⟨[],[],[],[],[]⟩),(18,⟨[1,5],[],[],[],[]⟩)]
def Ag3:Lk:=⟨[],[(18,⟨[(1,.i),(5,.c xs)],[]⟩,[(0,⟨[],[]⟩)])]⟩
def UN (N n:Nat):Sig:=.of [KD,.cell false (.int .i64)] [.cell false (.int .i64)] (fun a=>L8 N n a.1 a.2)
theorem Xk (N:Nat): ∀ n,Spec Tryz.prog 343 (UN N n)
  | 0=>wE (C:=ctx Tryz.prog [] []) (fn:=Tryz.f343) (CZ (gs:=[]) trivial) (by kernel_rfl) (by kernel_rfl)
  | n+1=>Vr (C:=ctx Tryz.prog ((343,UN N n)::[(131,YK N)]) AeQ) (L:=Ag3) (fn:=Tryz.f343) (N:=N) (CZ ⟨Xk N n,⟨ZW N,trivial⟩⟩)
def nJ:Sig:=UN N N
theorem Abr:Spec Tryz.prog 343 (nJ N):=Xk N N
def Gv:Sig:=.of [Qb] [Df] (fun a=>F9 N a)
theorem Gp:Dc 61 (Gv N):=Di (Dh [] []) ⟨[],[]⟩ Tryz.f61 N (CZ trivial)
def Ade:List (Nat×Nrm):=[(3,⟨[4],[],[],[],[]⟩),(30,⟨[0,4,42,43],[],[],[],[]⟩)]
def AeG:Lk:=⟨[],[(30,⟨[(0,.i),(4,.c x64),(42,.i),(43,.c x64)],[]⟩,[(0,⟨[(4,.c x64)],[]⟩)])]⟩
def UM:Sig:=.of [Dn] [Df,Df] (fun a=>JU N a)
theorem Xg:Dc 164 (UM N):=Di (Dh [] Ade [] [] [] [8,12,16,20,21,25,29,30,31,32]) AeG Tryz.f164 N (CZ trivial)
def Ab7:List (Nat×Nrm):=[(3,⟨[],[],[],[],[]⟩),(10,⟨[0,3],[],[],[],[]⟩)]
def Ad2:Lk:=⟨[],[(10,⟨[(0,.i),(3,.c x64)],[]⟩,[(0,⟨[],[]⟩)])]⟩
def aG:Sig:=.of [.cell false (.sl 98 Tq5)] [DK] (fun a=>nX N a)
theorem wR:Dc 234 (aG N):=Di (Dh [] Ab7) Ad2 Tryz.f234 N (CZ trivial)
def AdQ:List (Nat×Nrm):=[(3,⟨[3],[],[],[],[]⟩),(14,⟨[3,7,8,9],[],[],[],[]⟩)]
def AfT:Lk:=⟨[],[(14,⟨[(3,.c x64),(7,.c (xo 34560)),(8,.i),(9,.c x64)],[(34560,.arr 5 false Ar)]⟩,[(0,⟨[(3,.c x64)],[]⟩)])]⟩
def Wn:Sig:=.of [Dn] [Df] (fun a=>Lr N a)
theorem Yi:Dc 236 (Wn N):=Di (Dh [] AdQ) AfT Tryz.f236 N (CZ trivial)
def IE:Sig:=.of [Qb,Df] [KD,DK] (fun a=>EH N a.1 a.2)
theorem I5:Dc 109 (IE N):=Di (Dh [] []) ⟨[],[]⟩ Tryz.f109 N (CZ trivial)
def Qe:Sig:=.of [Qb] [Df] (fun a=>Ia N a)
theorem SG:Dc 167 (Qe N):=Di (Dh [] []) ⟨[],[]⟩ Tryz.f167 N (CZ trivial)
def UL:Sig:=.of [Dn] [DK,Df] (fun a=>YD N a)
theorem Xf:Dc 288 (UL N):=Di (Dh [] []) ⟨[],[]⟩ Tryz.f288 N (CZ trivial)
def Adg:Sig:=.of [Dn,Df] [DK] (fun a=>kS N a.1 a.2)
theorem Agt:Dc 315 (Adg N):=Di (Dh [] []) ⟨[],[]⟩ Tryz.f315 N (CZ trivial)
def Qk:Sig:=.of [DK] [Dn] (fun a=>Oj N a)
theorem TJ:Dc 200 (Qk N):=Di (Dh [] []) ⟨[],[]⟩ Tryz.f200 N (CZ trivial)
def Wu:Sig:=.of [Df] [Df] (fun a=>Qy N a)
theorem Yt:Dc 266 (Wu N):=Di (Dh [] []) ⟨[],[]⟩ Tryz.f266 N (CZ trivial)
def Abh:List (Nat×Nrm):=[(3,⟨[0,4],[],[],[],[]⟩),(11,⟨[5],[],[],[],[]⟩),(18,⟨[0,4],[],[],[],[]⟩),(38,⟨[0,5,34,35],[],[],[],[]⟩)]
def Adf:Lk:=⟨[],[(18,⟨[(0,.i),(4,.c x64)],[]⟩,[(0,⟨[(0,.i),(4,.c x64)],[]⟩)]),(38,⟨[(0,.i),(5,.c (xo 38912)),(34,.i),(35,.c x64)],[(38912,.arr 5 false Ar)]⟩,[(2,⟨[(5,.c (xo 38912))],[(38912,.arr 5 false Ar)]⟩)])]⟩
def TK:Sig:=.of [Df] [Dn,Df] (fun a=>Iq N a)
theorem VL:Dc 202 (TK N):=Di (Dh [] Abh) Adf Tryz.f202 N (CZ trivial)
def QS:Sig:=.of [.box [(false,.bool)]] [DK] (fun a=>Hr N a)
theorem NT:Dc 84 (QS N):=Di (Dh [] []) ⟨[],[]⟩ Tryz.f84 N (CZ trivial)
def YF:Sig:=.of [Dn,Df] [DK] (fun a=>TM N a.1 a.2)
theorem ZQ:Dc 173 (YF N):=Di (Dh [] []) ⟨[],[]⟩ Tryz.f173 N (CZ trivial)
def J8:Sig:=.of [Aa2] [DK] (fun a=>Hw N a)
theorem KF:Dc 66 (J8 N):=Di (Dh [] []) ⟨[],[]⟩ Tryz.f66 N (CZ trivial)
def Vh:Sig:=.of [Df] [Dn] (fun a=>VD N a)
theorem UG:Dc 161 (Vh N):=Di (Dh [] []) ⟨[],[]⟩ Tryz.f161 N (CZ trivial)
def Aae:Sig:=.of [Df] [Dn] (fun a=>Af6 N a)
theorem Ae4:Dc 178 (Aae N):=Di (Dh [] []) ⟨[],[]⟩ Tryz.f178 N (CZ trivial)
def kQ:Sig:=.of [Df] [Dn] (fun a=>fZ N a)
theorem bM:Dc 247 (kQ N):=Di (Dh [] []) ⟨[],[]⟩ Tryz.f247 N (CZ trivial)
def Abf:Sig:=.of [Df] [Dn] (fun a=>fV N a)
theorem Aak:Dc 248 (Abf N):=Di (Dh [] []) ⟨[],[]⟩ Tryz.f248 N (CZ trivial)
def AjF:List (Nat×Nrm):=[(3,⟨[3],[],[],[],[]⟩),(14,⟨[3,10,11,12],[],[],[],[]⟩)]
def Ama:Lk:=⟨[],[(14,⟨[(3,.c (xo 35072)),(10,.i),(11,.i),(12,.c x64)],[(35072,.arr 5 false Ar)]⟩,[(0,⟨[(3,.c (xo 35072))],[(35072,.arr 5 false Ar)]⟩)])]⟩
def kR:Sig:=.of [Sq8] [Dn] (fun a=>Y8 N a)
theorem mY:Dc 232 (kR N):=Di (Dh [] AjF [] [] [20]) Ama Tryz.f232 N (CZ trivial)
def TC:Sig:=.of [Dn,Df] [Df] (fun a=>KL N a.1 a.2)
theorem VI:Dc 174 (TC N):=Di (Dh [] []) ⟨[],[]⟩ Tryz.f174 N (CZ trivial)
def Un:Sig:=.of [Ato] [Dn] (fun a=>Xe N a)
theorem bJ:Dc 121 (Un N):=Di (Dh [] []) ⟨[],[]⟩ Tryz.f121 N (CZ trivial)
def Ago:List (Nat×Nrm):=[(3,⟨[4,5],[([4],3,Aw,1004096)],[],[(1000000,1004096)],[]⟩),(26,⟨[4,5,14,15,16],[([4],3,Aw,1000000)],[],[(40448,1000000)],[]⟩)]
def Aiv:Lk:=⟨[],[(26,⟨[(4,.c (xo 1000000)),(5,.c x64),(14,.c (xo 36352)),(15,.i),(16,.c x64)],[(36352,.arr 5 false Ar),(1000000,.arr 3 false Aw)]⟩,[(0,⟨[(4,.c (xo 1004096)),(5,.c x64)],[(1004096,.arr 3 false Aw)]⟩)])]⟩
def Y7:Sig:=.of [Dn] [Ahk,Df] (fun a=>Nc N a)
theorem ZM:Dc 175 (Y7 N):=Di (Dh [] Ago) Aiv Tryz.f175 N (CZ trivial)
def MP:Sig:=.of [Qb] [KD,Df] (fun a=>JI N a)
theorem NS:Dc 105 (MP N):=Di (Dh [] []) ⟨[],[]⟩ Tryz.f105 N (CZ trivial)
def Ae9:List (Nat×Nrm):=[(3,⟨[3],[([3],3,Aw,1016384)],[],[(1000000,1016384)],[]⟩),(7,⟨[0,3,4],[],[],[],[]⟩),(11,⟨[],[],[],[],[]⟩),(14,⟨[0,3,4],[([3],3,Aw,1000000)],[],[(42240,1000000)],[]⟩),(30,⟨[0,3,4,5],[([3],3,Aw,1004096)],[],[(1000000,1004096)],[]⟩)]
def Agm:Lk:=⟨[],[(14,⟨[(0,.i),(3,.c (xo 1000000)),(4,.c x64)],[(1000000,.arr 3 false Aw)]⟩,[(0,⟨[(3,.c (xo 1016384))],[(1016384,.arr 3 false Aw)]⟩)]),(30,⟨[(0,.i),(3,.c (xo 1004096)),(4,.c x64),(5,.c x64)],[(1004096,.arr 3 false Aw)]⟩,[(1,⟨[(0,.i),(3,.c (xo 42240)),(4,.c x64)],[(42240,.arr 3 false Aw)]⟩),(2,⟨[],[]⟩)])]⟩
def mW:Sig:=.of [Dn] [Ahk] (fun a=>Aaj N a)
theorem Abc:Dc 245 (mW N):=Di (Dh [] Ae9) Agm Tryz.f245 N (CZ trivial)
def fJ:Sig:=.of [KD] [Df] (fun a=>Ti N a)
theorem yL:Dc 114 (fJ N):=Di (Dh [] [] [] [] [] [6,10,11,16,17,22]) ⟨[],[]⟩ Tryz.f114 N (CZ trivial)
def Ae3:List (Nat×Nrm):=[(3,⟨[4],[],[],[],[]⟩),(22,⟨[4,12,13,14],[],[],[],[]⟩)]
def Agi:Lk:=⟨[],[(22,⟨[(4,.c x64),(12,.c (xo 35840)),(13,.i),(14,.c x64)],[(35840,.arr 5 false Ar)]⟩,[(0,⟨[(4,.c x64)],[]⟩)])]⟩
def mQ:Sig:=.of [Dn] [Df,DK] (fun a=>Vg N a)
theorem AaY:Dc 115 (mQ N):=Di (Dh [] Ae3) Agi Tryz.f115 N (CZ trivial)
def Ag2:List (Nat×Nrm):=[(3,⟨[4],[([4],3,Aw,1012288)],[],[(1000000,1012288)],[]⟩),(11,⟨[0,4,6,8],[([4],3,Aw,1008192)],[],[(1004096,1008192)],[]⟩),(18,⟨[0,4,5,6],[([4],3,Aw,1000000)],[],[(53760,1000000)],[]⟩),(58,⟨[0,4,6,7,8,9],[([4],3,Aw,1004096)],[],[(1000000,1004096)],[]⟩)]
def Ai9:Lk:=⟨[],[(18,⟨[(0,.i),(4,.c (xo 1000000)),(5,.c x64),(6,.c x64)],[(1000000,.arr 3 false Aw)]⟩,[(0,⟨[(4,.c (xo 1012288))],[(1012288,.arr 3 false Aw)]⟩)]),(58,⟨[(0,.i),(4,.c (xo 1004096)),(6,.i),(7,.i),(8,.c x64),(9,.c x64)],[(1004096,.arr 3 false Aw)]⟩,[(2,⟨[(0,.i),(4,.c (xo 1008192)),(6,.i),(8,.c x64)],[(1008192,.arr 3 false Aw)]⟩)])]⟩
def YL:Sig:=.of [Dn] [Ahk,DK] (fun a=>l9 N a)
theorem ZX:Dc 218 (YL N):=Di (Dh [] Ag2 [] [] [] [43,47,48,52,56,57,58,62,88,93,94,99,104,105]) Ai9 Tryz.f218 N (CZ trivial)
def Ag5:List (Nat×Nrm):=[(3,⟨[],[],[],[],[]⟩),(10,⟨[0,3],[],[],[],[]⟩),(15,⟨[0,3,5,6,7],[],[],[],[]⟩),(65,⟨[0,3,4,5,6],[],[],[],[]⟩),(82,⟨[0,3,5,6,7,8],[],[],[],[]⟩)]
def AiB:Lk:=⟨[(65,⟨[(0,.i),(3,.c x64),(4,.i),(5,.c x64),(6,.c x64)],[]⟩)],[(10,⟨[(0,.i),(3,.c x64)],[]⟩,[(0,⟨[],[]⟩)]),(82,⟨[(0,.i),(3,.i),(5,.i),(6,.i),(7,.c x64),(8,.c x64)],[]⟩,[(3,⟨[(0,.i),(3,.i),(5,.i),(6,.i),(7,.c x64)],[]⟩)])]⟩
def uU:Sig:=.of [Dn] [DK] (fun a=>Ado N a)
theorem Adp:Dc 219 (uU N):=Di (Dh [] Ag5 [] [] [] [87,90,91,94,97,98]) AiB Tryz.f219 N (CZ trivial)
def QO:Sig:=.of [.cell false (.int .u8)] [DK] (fun a=>Q5 N a)
theorem QX:Dc 220 (QO N):=Di (Dh [] [] [] [] [] [5,8,9,12,15,16,17,20,23,24]) ⟨[],[]⟩ Tryz.f220 N (CZ trivial)
def AeI:List (Nat×Nrm):=[(3,⟨[],[],[],[],[]⟩),(10,⟨[0,1,5],[],[],[],[]⟩)]
def Agv:Lk:=⟨[],[(10,⟨[(0,.i),(1,.i),(5,.c x64)],[]⟩,[(0,⟨[],[]⟩)])]⟩
def WC:Sig:=.of [.cell false (.int .u8),Dn] [DK] (fun a=>Q7 N a.1 a.2)
theorem YH:Dc 221 (WC N):=Di (Dh [] AeI) Agv Tryz.f221 N (CZ trivial)
def Xn:Sig:=.of [Ao0] [DK] (fun a=>Jo N a)
theorem lK:Dc 93 (Xn N):=Di (Dh [] [] [] [] [] [7,11,12,16,17,21,22,26]) ⟨[],[]⟩ Tryz.f93 N (CZ trivial)
def AeU:List (Nat×Nrm):=[(3,⟨[5],[([5],9,Au,1004096)],[],[(1000000,1004096)],[]⟩),(18,⟨[0,1,5,6,7],[([5],9,Au,1000000)],[],[(40704,1000000)],[]⟩)]
def Ag7:Lk:=⟨[],[(18,⟨[(0,.i),(1,.i),(5,.c (xo 1000000)),(6,.c x64),(7,.c x64)],[(1000000,.arr 9 false Au)]⟩,[(0,⟨[(5,.c (xo 1004096))],[(1004096,.arr 9 false Au)]⟩)])]⟩
def WJ:Sig:=.of [Dn,.cell false (.int .u8)] [Sq8] (fun a=>Vp N a.1 a.2)
theorem YQ:Dc 280 (WJ N):=Di (Dh [] AeU) Ag7 Tryz.f280 N (CZ trivial)
def TD:Sig:=.of [Dn,Dn,Df] [Df] (fun a=>ND N a.1 a.2.1 a.2.2)
theorem VJ:Dc 230 (TD N):=Di (Dh [(174,TC N)] []) ⟨[],[]⟩ Tryz.f230 N (CZ ⟨VI N,trivial⟩)
def Gw:Sig:=.of [Qb,Df] [KD,Df] (fun a=>FB N a.1 a.2)
theorem Gq:Dc 57 (Gw N):=Di (Dh [(105,MP N)] []) ⟨[],[]⟩ Tryz.f57 N (CZ ⟨NS N,trivial⟩)
def Agk:List (Nat×Nrm):=[(3,⟨[7],[([7],9,Au,1004096)],[],[(1000000,1004096)],[]⟩),(34,⟨[7,36,37,38],[([7],9,Au,1000000)],[],[(45056,1000000)],[]⟩)]
def Aio:Lk:=⟨[],[(34,⟨[(7,.c (xo 1000000)),(36,.c (xo 41728)),(37,.i),(38,.c x64)],[(41728,.arr 3 false Aw),(1000000,.arr 9 false Au)]⟩,[(0,⟨[(7,.c (xo 1004096))],[(1004096,.arr 9 false Au)]⟩)])]⟩
def Tu:Sig:=.of [Dn] [Dn,Df] (fun a=>PM N a)
theorem Tv:Dc 172 (Tu N):=Di (Dh [(245,mW N),(246,iH N),(194,UT N)] Agk) Aio Tryz.f172 N (CZ ⟨Abc N,yZ N,Xp N,trivial⟩)
def qY:Sig:=.of [Df,Dn] [Ak8] (fun a=>Aca N a.1 a.2)
theorem Acb:Dc 238 (qY N):=Di (Dh [(236,Wn N)] []) ⟨[],[]⟩ Tryz.f238 N (CZ ⟨Yi N,trivial⟩)
def qZ:List (Nat×Nrm):=[(29,⟨[8,9],[],[],[],[]⟩)]
def yE:Lk:=⟨[(29,⟨[(8,.i),(9,.c x64)],[(0,.box [Bi])]⟩)],[]⟩
def WW:Sig:=.of [Qb,Df] [DK,Df] (fun a=>EO N a.1 a.2)
theorem jB:Dc 290 (WW N):=Di (Dh [(109,IE N),(288,UL N)] qZ) yE Tryz.f290 N (CZ ⟨I5 N,Xf N,trivial⟩)
def bP:Sig:=.of [Dn] [Dn,Df,Df] (fun a=>VK N a)
theorem gB:Dc 113 (bP N):=Di (Dh [(173,YF N)] []) ⟨[],[]⟩ Tryz.f113 N (CZ ⟨ZQ N,trivial⟩)
def QY:Sig:=.of [Dn] [DK] (fun a=>MB N a)
theorem Uo:Dc 154 (QY N):=Di (Dh [(218,YL N)] []) ⟨[],[]⟩ Tryz.f154 N (CZ ⟨ZX N,trivial⟩)
def uS:List (Nat×Nrm):=[(7,⟨[],[],[],[],[]⟩),(25,⟨[0,1,11],[],[],[],[]⟩),(30,⟨[0,1,5],[],[],[],[]⟩)]
def yQ:Lk:=⟨[(25,⟨[(0,.i),(1,.i),(11,.c xb)],[]⟩)],[(30,⟨[(0,.i),(1,.i),(5,.c x64)],[]⟩,[(1,⟨[],[]⟩)])]⟩
def Xj:Sig:=.of [Df,Dn] [DK] (fun a=>TR N a.1 a.2)
theorem l7:Dc 155 (Xj N):=Di (Dh [(219,uU N),(220,QO N),(221,WC N)] uS [] [] [] [22,27,32,33,34,37,43,44,50,51]) yQ Tryz.f155 N (CZ ⟨Adp N,QX N,YH N,trivial⟩)
def AiC:List (Nat×Nrm):=[(3,⟨[],[],[],[],[]⟩),(11,⟨[10,11,12],[],[],[],[]⟩),(18,⟨[10,11,12],[],[],[],[]⟩),(38,⟨[4,5,10,11,12],[],[],[],[]⟩)]
def AjK:Lk:=⟨[],[(18,⟨[(10,.i),(11,.i),(12,.c x64)],[]⟩,[(0,⟨[],[]⟩)]),(38,⟨[(4,.i),(5,.c x64),(10,.i),(11,.i),(12,.i)],[]⟩,[(2,⟨[(10,.i),(11,.i),(12,.i)],[]⟩)])]⟩
def Q9:Sig:=.of [Dn] [DK] (fun a=>Ir N a)
theorem PQ:Dc 278 (Q9 N):=Di (Dh [(280,WJ N),(220,QO N)] AiC [] [] [] [19,23,24,28,29,36]) AjK Tryz.f278 N (CZ ⟨YQ N,QX N,trivial⟩)
def Agx:List (Nat×Nrm):=[(3,⟨[3],[([3],5,Ar,1004096)],[],[(1000000,1004096)],[]⟩),(18,⟨[0,3,4],[([3],5,Ar,1000000)],[],[(41984,1000000)],[]⟩)]
def Ai5:Lk:=⟨[],[(18,⟨[(0,.i),(3,.c (xo 1000000)),(4,.c x64)],[(1000000,.arr 5 false Ar)]⟩,[(0,⟨[(3,.c (xo 1004096))],[(1004096,.arr 5 false Ar)]⟩)])]⟩
def uO:Sig:=.of [Dn] [Dn] (fun a=>kY N a)
theorem Adm:Dc 311 (uO N):=Di (Dh [(336,nD N)] Agx) Ai5 Tryz.f311 N (CZ ⟨Abn N,trivial⟩)
def Aac:Sig:=.of [pJ] [Df] (fun a=>OO N a)
theorem Ae1:Dc 46 (Aac N):=Di (Dh [(16,Hm N)] []) ⟨[],[]⟩ Tryz.f46 N (CZ ⟨G9 N,trivial⟩)
def Y3:Sig:=.of [pJ] [Sq1] (fun a=>PL N a)
theorem oD:Dc 157 (Y3 N):=Di (Dh [(16,Hm N)] []) ⟨[],[]⟩ Tryz.f157 N (CZ ⟨G9 N,trivial⟩)
def Fg:Sig:=.of [Df,Sq8] [Dn] (fun a=>DL N a.1 a.2)
theorem EJ:Dc 73 (Fg N):=Di (Dh [(132,TS N)] []) ⟨[],[]⟩ Tryz.f73 N (CZ ⟨TT N,trivial⟩)
def uN:List (Nat×Nrm):=[(3,⟨[6],[([6],5,Ar,1020480)],[],[(1000000,1020480)],[]⟩),(11,⟨[6,9,30,31,32],[([6],5,Ar,1008192)],[],[(1004112,1008192)],[]⟩),(19,⟨[6,9,30,31,32],[([6],5,Ar,1016384)],[],[(1012288,1016384)],[]⟩),(30,⟨[6,30,31,32],[([6],5,Ar,1000000)],[],[(48384,1000000)],[]⟩),(42,⟨[6,8,9,30,31,32],[([9],5,Ar,1004096),([6],5,Ar,1004112)],[],[(43264,1004096),(1000000,1004112)],[]⟩),(58,⟨[6,9,10,30,31,32],[([6],5,Ar,1012288)],[],[(1008192,1012288)],[]⟩)]
def yO:Lk:=⟨[],[(30,⟨[(6,.c (xo 1000000)),(30,.c (xo 40192)),(31,.i),(32,.c x64)],[(40192,.arr 3 false Aw),(1000000,.arr 5 false Ar)]⟩,[(0,⟨[(6,.c (xo 1020480))],[(1020480,.arr 5 false Ar)]⟩)]),(42,⟨[(6,.c (xo 1004112)),(8,.c x64),(9,.c (xo 1004096)),(30,.c (xo 40192)),(31,.i),(32,.i)],[(40192,.arr 3 false Aw),(1004096,.arr 5 false Ar),(1004112,.arr 5 false Ar)]⟩,[(2,⟨[(6,.c (xo 1008192)),(9,.c (xo 43264)),(30,.c (xo 40192)),(31,.i),(32,.i)],[(40192,.arr 3 false Aw),(43264,.arr 5 false Ar),(1008192,.arr 5 false Ar)]⟩)]),(58,⟨[(6,.c (xo 1012288)),(9,.c (xo 43264)),(10,.c x64),(30,.c (xo 40192)),(31,.i),(32,.i)],[(40192,.arr 3 false Aw),(43264,.arr 5 false Ar),(1012288,.arr 5 false Ar)]⟩,[(4,⟨[(6,.c (xo 1016384)),(9,.c (xo 43264)),(30,.c (xo 40192)),(31,.i),(32,.i)],[(40192,.arr 3 false Aw),(43264,.arr 5 false Ar),(1016384,.arr 5 false Ar)]⟩)])]⟩
def Xh:Sig:=.of [Dn] [Dn,Df] (fun a=>ZV N a)
theorem kX:Dc 255 (Xh N):=Di (Dh [(218,YL N)] uN) yO Tryz.f255 N (CZ ⟨ZX N,trivial⟩)
def AeK:List (Nat×Nrm):=[(3,⟨[0,2,4,5],[],[],[],[]⟩),(11,⟨[0,2,4,5,6],[],[],[],[]⟩),(22,⟨[0,2,4,5],[],[],[],[]⟩),(38,⟨[0,2,4,5,6],[],[],[],[]⟩)]
def Agw:Lk:=⟨[],[(22,⟨[(0,.i),(2,.c AB),(4,.i),(5,.c x64)],[(33280,.box Bv)]⟩,[(0,⟨[(0,.i),(2,.c AB),(4,.i),(5,.c x64)],[(33280,.box Bv)]⟩)]),(38,⟨[(0,.i),(2,.c AB),(4,.c x64),(5,.i),(6,.c x64)],[(33280,.box Bv)]⟩,[(2,⟨[(0,.i),(2,.c AB),(4,.c x64),(5,.i),(6,.c x64)],[(33280,.box Bv)]⟩)])]⟩
def nC:Sig:=.of [Df] [Ak8,Df] (fun a=>Aam N a)
theorem Abm:Dc 182 (nC N):=Di (Dh [(249,gQ N),(250,uT N)] AeK) Agw Tryz.f182 N (CZ ⟨yR N,Adn N,trivial⟩)
def AjX:List (Nat×Nrm):=[(3,⟨[0,1,6],[],[],[],[]⟩),(22,⟨[0,1,6,21,22,23],[],[],[],[]⟩),(77,⟨[1,9],[],[],[(45568,1008192),(47616,1008192),(49664,1008192),(52480,1008192)],[]⟩)]
def Amw:Lk:=⟨[(77,⟨[(1,.i),(9,.c (xo 1008192))],[(1008192,.arr 5 false Ar)]⟩)],[(22,⟨[(0,.i),(1,.i),(6,.c x64),(21,.i),(22,.i),(23,.c x64)],[]⟩,[(0,⟨[(0,.i),(1,.i),(6,.c x64)],[]⟩)])]⟩
def JA:Sig:=.of [Df,Sq8] [Dn,Df] (fun a=>Ew N a.1 a.2)
theorem Iw:Dc 136 (JA N):=Di (Dh [(194,UT N)] AjX) Amw Tryz.f136 N (CZ ⟨Xp N,trivial⟩)
def uH:List (Nat×Nrm):=[(3,⟨[0,3],[],[],[],[]⟩),(11,⟨[5],[([5],5,Ar,1012288)],[],[(1008192,1012288)],[]⟩),(14,⟨[0,3,4],[],[],[],[]⟩),(34,⟨[0,3,5,18,19],[([5],5,Ar,1008192)],[],[(41216,1008192)],[]⟩)]
def yN:Lk:=⟨[],[(14,⟨[(0,.i),(3,.c x64),(4,.c x64)],[]⟩,[(0,⟨[(0,.i),(3,.c x64)],[]⟩)]),(34,⟨[(0,.i),(3,.i),(5,.c (xo 1008192)),(18,.i),(19,.c x64)],[(1008192,.arr 5 false Ar)]⟩,[(2,⟨[(5,.c (xo 1012288))],[(1012288,.arr 5 false Ar)]⟩)])]⟩
def Ql:Sig:=.of [Df] [Dn] (fun a=>Jk N a)
theorem TL:Dc 133 (Ql N):=Di (Dh [] uH) yN Tryz.f133 N (CZ trivial)
def AbZ:Sig:=.of [Df] [Df] (fun a=>Wi N a)
theorem qW:Dc 263 (AbZ N):=Di (Dh [] []) ⟨[],[]⟩ Tryz.f263 N (CZ trivial)
def zI:Sig:=.of [Df] [DK] (fun a=>qX N a)
theorem AdP:Dc 264 (zI N):=Di (Dh [] []) ⟨[],[]⟩ Tryz.f264 N (CZ trivial)
def Ajq:List (Nat×Nrm):=[(3,⟨[0,1,7],[],[],[(0,1004096),(1000000,1004096)],[]⟩),(11,⟨[0],[],[],[],[]⟩),(14,⟨[0,1,2,7,8],[],[],[(0,1000000),(37632,1000000)],[]⟩),(30,⟨[0,1,7,9],[],[],[],[]⟩)]
def AkZ:Lk:=⟨[],[(14,⟨[(0,.c (xo 1000000)),(1,.i),(2,.i),(7,.i),(8,.c x64)],[(1000000,.arr 5 false Ar)]⟩,[(0,⟨[(0,.c (xo 1004096)),(1,.i),(7,.i)],[(1004096,.arr 5 false Ar)]⟩)]),(30,⟨[(0,.c (xo 1004096)),(1,.c x64),(7,.i),(9,.c x64)],[(1004096,.arr 5 false Ar)]⟩,[(2,⟨[(0,.c (xo 1004096))],[(1004096,.arr 5 false Ar)]⟩)])]⟩
def Acd:Sig:=.of [Ar2,Df,Df] [Ar2] (fun a=>jA N a.1 a.2.1 a.2.2)
theorem AfU:Dc 140 (Acd N):=Di (Dh [] Ajq) AkZ Tryz.f140 N (CZ trivial)
def AhG:List (Nat×Nrm):=[(3,⟨[3],[],[],[],[]⟩),(14,⟨[3,9,10,11],[],[],[],[]⟩)]
def Ajy:Lk:=⟨[],[(14,⟨[(3,.c (xo 34816)),(9,.i),(10,.i),(11,.c x64)],[(34816,.mp Au Aw)]⟩,[(0,⟨[(3,.c (xo 34816))],[(34816,.mp Au Aw)]⟩)])]⟩
def zK:Sig:=.of [.cell false (.sl 183 Tq4)] [Atn] (fun a=>ZE N a)
theorem Aef:Dc 198 (zK N):=Di (Dh [] AhG) Ajy Tryz.f198 N (CZ trivial)
def Aay:Sig:=.of [Df] [Df] (fun a=>wU N a)
theorem Afh:Dc 285 (Aay N):=Di (Dh [] []) ⟨[],[]⟩ Tryz.f285 N (CZ trivial)
def AlV:List (Nat×Nrm):=[(3,⟨[0,1,5],[],[],[],[]⟩),(10,⟨[0,1,5],[],[],[],[]⟩),(11,⟨[0,1],[],[],[(0,1012288),(1008192,1012288)],[]⟩),(22,⟨[0,1,6],[],[],[(0,1008192),(40704,1008192)],[]⟩)]
def AnM:Lk:=⟨[],[(10,⟨[(0,.c (xo 0)),(1,.i),(5,.c x64)],[(0,.arr 5 true Ar)]⟩,[(0,⟨[(0,.c (xo 0)),(1,.i),(5,.c x64)],[(0,.arr 5 true Ar)]⟩)]),(22,⟨[(0,.c (xo 1008192)),(1,.i),(6,.c x64)],[(1008192,.arr 5 true Ar)]⟩,[(2,⟨[(0,.c (xo 1012288)),(1,.i)],[(1012288,.arr 5 true Ar)]⟩)])]⟩
def AfB:Sig:=.of [Ar3,Df] [Ar3] (fun a=>AeA N a.1 a.2)
theorem Air:Dc 193 (AfB N):=Di (Dh [] AlV) AnM Tryz.f193 N (CZ trivial)
def Agf:List (Nat×Nrm):=[(3,⟨[],[],[],[],[]⟩),(18,⟨[32,33,34],[],[],[],[]⟩)]
def AhV:Lk:=⟨[],[(18,⟨[(32,.c (xo 40960)),(33,.i),(34,.c x64)],[(40960,.arr 5 false Ar)]⟩,[(0,⟨[],[]⟩)])]⟩
def sK:Sig:=.of [Dn] [DK] (fun a=>jS N a)
theorem Ac8:Dc 272 (sK N):=Di (Dh [(274,Pj N),(306,Wy N),(307,Yx N),(209,NZ N)] Agf [] [] [] [9,13,14,18,19,26,27,30]) AhV Tryz.f272 N (CZ ⟨RU N,Yy N,ZH N,QD N,trivial⟩)
def Agb:List (Nat×Nrm):=[(3,⟨[],[],[],[],[]⟩),(26,⟨[3,4,5,6],[],[],[],[]⟩)]
def AhT:Lk:=⟨[],[(26,⟨[(3,.i),(4,.i),(5,.c xb),(6,.c x64)],[]⟩,[(0,⟨[],[]⟩)])]⟩
def sH:Sig:=.of [Dn] [DK] (fun a=>jQ N a)
theorem Ac4:Dc 215 (sH N):=Di (Dh [(275,mM N),(276,Ac5 N)] Agb [] [] [] [32,34,35,38,42,43]) AhT Tryz.f215 N (CZ ⟨AaN N,Agc N,trivial⟩)
def qO:Sig:=.of [Df] [DK] (fun a=>SB N a)
theorem AbV:Dc 89 (qO N):=Di (Dh [(20,qG N)] []) ⟨[],[]⟩ Tryz.f89 N (CZ ⟨qH N,trivial⟩)
def EY:Sig:=.of [.box [(false,.bool)],Df,Sq8] [Dn] (fun a=>Dw N a.1 a.2.1 a.2.2)
theorem EN:Dc 81 (EY N):=Di (Dh [(136,JA N),(78,FX N)] []) ⟨[],[]⟩ Tryz.f81 N (CZ ⟨Iw N,FP N,trivial⟩)
def rC (N n:Nat):Sig:=.of [.cell false (.int .i64)] [.cell false (.int .i64)] (AdS N n)
theorem Acf:iK Tryz.prog (rC N):=Akn (Dk:=[.cell false (.int .i64)]) (D6:=[.cell false (.int .i64)]) (l:=[(263,fun a=>Wi N a)]) ⟨qW N,trivial⟩
def Wl:Sig:=.of [Df,Df] [Df] (fun a=>NK N a.1 a.2)
theorem Yh:Dc 197 (Wl N):=Di (Dh [(264,zI N)] []) ⟨[],[]⟩ Tryz.f197 N (CZ ⟨AdP N,trivial⟩)
def AjW:List (Nat×Nrm):=[(3,⟨[0,2,5,6,7,8,9],[],[],[],[]⟩),(74,⟨[0,2,5,6,7,8,9,50,51,52],[],[],[],[]⟩),(101,⟨[0,2,5,6,7,8],[],[],[],[]⟩)]
def Amv:Lk:=⟨[(101,⟨[(0,.i),(2,.c AB),(5,.c AQ),(6,.i),(7,.c x64),(8,.c x64)],[(33280,.box BB),(34048,.box BB)]⟩)],[(74,⟨[(0,.i),(2,.c AB),(5,.c AQ),(6,.i),(7,.c x64),(8,.i),(9,.i),(50,.c (xo 45568)),(51,.i),(52,.c x64)],[(33280,.box BB),(34048,.box BB),(45568,.arr 5 false Ar)]⟩,[(0,⟨[(0,.i),(2,.c AB),(5,.c AQ),(6,.i),(7,.c x64),(8,.i),(9,.i)],[(33280,.box BB),(34048,.box BB)]⟩)])]⟩
def XH:Sig:=.of [Dn] [KD,Dn,Df] (fun a=>Rh N a)
theorem WR:Dc 233 (XH N):=Di (Dh [(285,Aay N)] AjW) Amv Tryz.f233 N (CZ ⟨Afh N,trivial⟩)
def gG:Sig:=.of [Dn,Df] [Dn,Df] (fun a=>uG N a.1 a.2)
theorem yM:Dc 147 (gG N):=Di (Dh [(173,YF N)] []) ⟨[],[]⟩ Tryz.f147 N (CZ ⟨ZQ N,trivial⟩)
def MQ:Sig:=.of [.box [(false,.bool)],Df] [Dn] (fun a=>EI N a.1 a.2)
theorem NU:Dc 76 (MQ N):=Di (Dh [(133,Ql N),(81,EY N)] []) ⟨[],[]⟩ Tryz.f76 N (CZ ⟨TL N,EN N,trivial⟩)
def Wj:Sig:=.of [Df] [Df] (fun a=>UZ N a)
theorem Yg:Dc 196 (Wj N):=Di (Dh [] [] [] [(7,rC N),(12,rC N)]) ⟨[],[]⟩ Tryz.f196 N (CZ trivial trivial ⟨Acf N,Acf N,trivial⟩)
def RV:Sig:=.of [Dn] [KD,Df] (fun a=>PU N a)
theorem Pm:Dc 162 (RV N):=Di (Dh [(233,XH N)] []) ⟨[],[]⟩ Tryz.f162 N (CZ ⟨WR N,trivial⟩)
def AgJ:List (Nat×Nrm):=[(3,⟨[],[],[],[],[]⟩),(18,⟨[1,5],[],[],[],[]⟩)]
def AiU:Lk:=⟨[],[(18,⟨[(1,.i),(5,.c xs)],[]⟩,[(0,⟨[],[]⟩)])]⟩
def WS (N n:Nat):Sig:=.of [KD,.cell false (.int .i64)] [.cell false (.int .i64)] (fun a=>Nv N n a.1 a.2)
theorem Ze (N:Nat): ∀ n,Spec Tryz.prog 265 (WS N n)
  | 0=>wE (C:=ctx Tryz.prog [] []) (fn:=Tryz.f265) (CZ (gs:=[]) trivial) (by kernel_rfl) (by kernel_rfl)
  | n+1=>Vr (C:=ctx Tryz.prog ((265,WS N n)::[(233,XH N)]) AgJ) (L:=AiU) (fn:=Tryz.f265) (N:=N) (CZ ⟨Ze N n,⟨WR N,trivial⟩⟩)
def wV:Sig:=WS N N
theorem Ad3:Spec Tryz.prog 265 (wV N):=Ze N N
def Agl:List (Nat×Nrm):=[(3,⟨[5],[],[],[(37888,1004096),(1000000,1004096)],[]⟩),(26,⟨[5,22,23,24],[],[],[(37888,1000000),(40448,1000000)],[]⟩)]
def Aip:Lk:=⟨[],[(26,⟨[(5,.c (xo 1000000)),(22,.i),(23,.i),(24,.c x64)],[(1000000,.arr 5 true Ar)]⟩,[(0,⟨[(5,.c (xo 1004096))],[(1004096,.arr 5 true Ar)]⟩)])]⟩
def Tz:Sig:=.of [Dn] [Dn,Df] (fun a=>Nb N a)
theorem TA:Dc 135 (Tz N):=Di (Dh [(192,kK N),(193,AfB N)] Agl) Aip Tryz.f135 N (CZ ⟨mV N,Air N,trivial⟩)
def WX:Sig:=.of [.box [(false,.bool)],Df,DK] [Dn] (fun a=>FY N a.1 a.2.1 a.2.2)
theorem jC:Dc 203 (WX N):=Di (Dh [(200,Qk N),(81,EY N)] []) ⟨[],[]⟩ Tryz.f203 N (CZ ⟨TJ N,EN N,trivial⟩)
def Uf:Sig:=.of [Aa2] [Df] (fun a=>Pg N a)
theorem Zq:Dc 101 (Uf N):=Di (Dh [(66,J8 N),(99,J7 N)] []) ⟨[],[]⟩ Tryz.f101 N (CZ ⟨KF N,KE N,trivial⟩)
def AjV:List (Nat×Nrm):=[(3,⟨[4],[([4],98,Tq5,1004096)],[],[(1000000,1004096)],[]⟩),(10,⟨[0,4],[([4],98,Tq5,1000000)],[],[(38400,1000000)],[]⟩)]
def Amu:Lk:=⟨[],[(10,⟨[(0,.c xs),(4,.c (xo 1000000))],[(1000000,.arr 98 false Tq5)]⟩,[(0,⟨[(4,.c (xo 1004096))],[(1004096,.arr 98 false Tq5)]⟩)])]⟩
def J9:Sig:=.of [Dn] [.cell false (.sl 98 Tq5),Df] (fun a=>Jw N a)
theorem Iu:Dc 163 (J9 N):=Di (Dh [(233,XH N)] AjV) Amu Tryz.f163 N (CZ ⟨WR N,trivial⟩)
def Yd:Sig:=.of [Qb] [Df,Df] (fun a=>MN N a)
theorem Z4:Dc 106 (Yd N):=Di (Dh [(57,Gw N),(164,UM N)] []) ⟨[],[]⟩ Tryz.f106 N (CZ ⟨Gq N,Xg N,trivial⟩)
def Ags:List (Nat×Nrm):=[(3,⟨[8],[],[],[],[]⟩),(46,⟨[4,8,35,36],[],[],[],[]⟩)]
def Aiz:Lk:=⟨[],[(46,⟨[(4,.i),(8,.c x64),(35,.i),(36,.c x64)],[]⟩,[(0,⟨[(8,.c x64)],[]⟩)])]⟩
def YE:Sig:=.of [Dn] [Df,Df] (fun a=>Nh N a)
theorem ZP:Dc 291 (YE N):=Di (Dh [(113,bP N),(315,Adg N)] Ags) Aiz Tryz.f291 N (CZ ⟨gB N,Agt N,trivial⟩)
def Z5:Sig:=.of [Qb] [Dn,Df] (fun a=>QG N a)
theorem qP:Dc 60 (Z5 N):=Di (Dh [(57,Gw N),(113,bP N)] []) ⟨[],[]⟩ Tryz.f60 N (CZ ⟨Gq N,gB N,trivial⟩)
def YR:List (Nat×Nrm):=[(3,⟨[],[],[],[],[]⟩),(10,⟨[0,6,7,8],[],[],[],[]⟩),(11,⟨[0,6,7,8],[],[],[],[]⟩),(46,⟨[0,3,4,5,6,7,8],[],[],[],[]⟩)]
def Zn:Lk:=⟨[],[(10,⟨[(0,.i),(6,.i),(7,.i),(8,.c x64)],[]⟩,[(0,⟨[],[]⟩)]),(46,⟨[(0,.i),(3,.i),(4,.c AP),(5,.c x64),(6,.i),(7,.i),(8,.i)],[(33792,.box [xs,x64,xs])]⟩,[(2,⟨[(0,.i),(6,.i),(7,.i),(8,.i)],[]⟩)])]⟩
def PZ:Sig:=.of [.cell false (.sl 73 Tq0)] [Df] (fun a=>Jl N a)
theorem WL:Dc 92 (PZ N):=Di (Dh [(154,QY N),(155,Xj N)] YR) Zn Tryz.f92 N (CZ ⟨Uo N,l7 N,trivial⟩)
def AeW:List (Nat×Nrm):=[(3,⟨[0,5],[],[],[],[]⟩),(11,⟨[0,5],[],[],[],[]⟩),(18,⟨[0,5],[],[],[],[]⟩),(38,⟨[0,5,6],[],[],[],[]⟩)]
def Ag8:Lk:=⟨[],[(18,⟨[(0,.i),(5,.c x64)],[]⟩,[(0,⟨[(0,.i),(5,.c x64)],[]⟩)]),(38,⟨[(0,.i),(5,.i),(6,.c x64)],[]⟩,[(2,⟨[(0,.i),(5,.i)],[]⟩)])]⟩
def nN:Sig:=.of [Dn] [Dn,Dn,DK] (fun a=>Aas N a)
theorem Abv:Dc 279 (nN N):=Di (Dh [(278,Q9 N),(220,QO N),(221,WC N)] AeW [] [] [] [24,27,28,33,34,41,42,46,47,53,64,70,71,76,82,83]) Ag8 Tryz.f279 N (CZ ⟨PQ N,QX N,YH N,trivial⟩)
def uX:Sig:=.of [Dn] [DK] (fun a=>lD N a)
theorem Adq:Dc 224 (uX N):=Di (Dh [(278,Q9 N)] []) ⟨[],[]⟩ Tryz.f224 N (CZ ⟨PQ N,trivial⟩)
def aA:Sig:=.of [Dn] [DK] (fun a=>WI N a)
theorem vF:Dc 225 (aA N):=Di (Dh [(278,Q9 N),(280,WJ N)] [] [] [] [] [5,9,13,14,18,19,23,24,29,30]) ⟨[],[]⟩ Tryz.f225 N (CZ ⟨PQ N,YQ N,trivial⟩)
def Xi:Sig:=.of [Dn,Dn] [DK] (fun a=>TP N a.1 a.2)
theorem kZ:Dc 281 (Xi N):=Di (Dh [(311,uO N)] []) ⟨[],[]⟩ Tryz.f281 N (CZ ⟨Adm N,trivial⟩)
def OW:Sig:=.of [DK] [Dn] (fun a=>Nj N a)
theorem RG:Dc 253 (OW N):=Di (Dh [] []) ⟨[],[]⟩ Tryz.f253 N (CZ trivial)
def yP:List (Nat×Nrm):=[(3,⟨[0,4],[],[],[],[]⟩),(11,⟨[6],[],[],[],[]⟩),(22,⟨[0,4,5],[],[],[],[]⟩),(50,⟨[0,4,6,7],[],[],[],[]⟩)]
def Abq:Lk:=⟨[],[(22,⟨[(0,.i),(4,.c x64),(5,.c x64)],[]⟩,[(0,⟨[(0,.i),(4,.c x64)],[]⟩)]),(50,⟨[(0,.i),(4,.i),(6,.c (xo 40192)),(7,.c x64)],[(40192,.arr 5 false Ar)]⟩,[(2,⟨[(6,.c (xo 40192))],[(40192,.arr 5 false Ar)]⟩)])]⟩
def YJ:Sig:=.of [Df] [Dn,Df] (fun a=>PO N a)
theorem oJ:Dc 254 (YJ N):=Di (Dh [] yP) Abq Tryz.f254 N (CZ trivial)
def Aif:List (Nat×Nrm):=[(3,⟨[2,3],[],[],[(33637,1012288),(1000000,1012288)],[]⟩),(11,⟨[0,2,3,4,5],[([5],73,Tq0,1008192)],[],[(33637,1008208),(1004096,1008192),(1004112,1008208)],[]⟩),(14,⟨[0,2,3,4],[],[],[(33637,1000000),(44288,1000000)],[]⟩),(30,⟨[0,2,3,4,5,6],[([5],73,Tq0,1004096)],[],[(33637,1004112),(43008,1004096),(1000000,1004112)],[]⟩)]
def AjA:Lk:=⟨[],[(14,⟨[(0,.c AL),(2,.c AB),(3,.c AO),(4,.c x64)],[(0,.box BA),(33280,.box BC),(33281,.DU 74 false Aq),(33536,.box [(xo 1000000)]),(1000000,.arr 74 false Aq)]⟩,[(0,⟨[(2,.c AB),(3,.c AO)],[(0,.box BA),(33280,.box BC),(33281,.DU 74 false Aq),(33536,.box [(xo 1012288)]),(1012288,.arr 74 false Aq)]⟩)]),(30,⟨[(0,.c AL),(2,.c AB),(3,.c AO),(4,.i),(5,.c (xo 1004096)),(6,.c x64)],[(0,.box BA),(33280,.box BC),(33281,.DU 74 false Aq),(33536,.box [(xo 1004112)]),(1004096,.arr 73 false Tq0),(1004112,.arr 74 false Aq)]⟩,[(2,⟨[(0,.c AL),(2,.c AB),(3,.c AO),(4,.i),(5,.c (xo 1008192))],[(0,.box BA),(33280,.box BC),(33281,.DU 74 false Aq),(33536,.box [(xo 1008208)]),(1008192,.arr 73 false Tq0),(1008208,.arr 74 false Aq)]⟩)])]⟩
def Aaa:Sig:=.of [pJ] [Sq0] (fun a=>ZJ N a)
theorem Aez:Dc 96 (Aaa N):=Di (Dh [(16,Hm N),(157,Y3 N)] Aif) AjA Tryz.f96 N (CZ ⟨G9 N,oD N,trivial⟩)
def Vo:Sig:=.of [Dn] [Dn] (fun a=>RN N a)
theorem UQ:Dc 191 (Vo N):=Di (Dh [(255,Xh N),(73,Fg N)] []) ⟨[],[]⟩ Tryz.f191 N (CZ ⟨kX N,EJ N,trivial⟩)
def OV:Sig:=.of [Df] [Dn,Df] (fun a=>FU N a)
theorem RF:Dc 123 (OV N):=Di (Dh [(182,nC N),(183,Aap N),(132,TS N)] []) ⟨[],[]⟩ Tryz.f123 N (CZ ⟨Abm N,AeR N,TT N,trivial⟩)
def PR:Sig:=.of [Df,Df] [Dn] (fun a=>EU N a.1 a.2)
theorem Qq:Dc 128 (PR N):=Di (Dh [(190,VO N),(73,Fg N)] []) ⟨[],[]⟩ Tryz.f128 N (CZ ⟨gK N,EJ N,trivial⟩)
def mZ:Sig:=.of [Dn] [Df] (fun a=>Q8 N a)
theorem Abl:Dc 318 (mZ N):=Di (Dh [(70,bV N),(343,nJ N)] []) ⟨[],[]⟩ Tryz.f318 N (CZ ⟨gJ N,Abr N,trivial⟩)
def aC:Sig:=.of [Df,DK] [Dn] (fun a=>GZ N a.1 a.2)
theorem vN:Dc 187 (aC N):=Di (Dh [(253,OW N),(73,Fg N)] []) ⟨[],[]⟩ Tryz.f187 N (CZ ⟨RG N,EJ N,trivial⟩)
def WN:Sig:=.of [Df,Df] [Dn] (fun a=>IP N a.1 a.2)
theorem YW:Dc 188 (WN N):=Di (Dh [(254,YJ N),(73,Fg N)] []) ⟨[],[]⟩ Tryz.f188 N (CZ ⟨oJ N,EJ N,trivial⟩)
def AaG:List (Nat×Nrm):=[(89,⟨[2,4,5,6],[],[],[],[]⟩)]
def Acm:Lk:=⟨[(89,⟨[(2,.c AB),(4,.c AP),(5,.c AQ),(6,.c Bi)],[(33280,.box [A8,AA,A8]),(33792,.box [A8,AA,A8]),(34048,.box [xs,xb,A8])]⟩)],[]⟩
def ZB:Sig:=.of [KD] [Ahj,Df] (fun a=>Js N a)
theorem rJ:Dc 240 (ZB N):=Di (Dh [(163,J9 N),(172,Tu N),(288,UL N)] AaG) Acm Tryz.f240 N (CZ ⟨Iu N,Tv N,Xf N,trivial⟩)
def uY:List (Nat×Nrm):=[(3,⟨[],[],[],[],[]⟩),(18,⟨[11,12,13],[],[],[],[]⟩)]
def yS:Lk:=⟨[],[(18,⟨[(11,.i),(12,.i),(13,.c x64)],[]⟩,[(0,⟨[],[]⟩)])]⟩
def Ik:Sig:=.of [Sq0] [Df] (fun a=>Gf N a)
theorem Ig:Dc 40 (Ik N):=Di (Dh [(92,PZ N)] uY) yS Tryz.f40 N (CZ ⟨WL N,trivial⟩)
def YP:Sig:=.of [Dn] [DK] (fun a=>X8 N a)
theorem ZZ:Dc 223 (YP N):=Di (Dh [(279,nN N)] []) ⟨[],[]⟩ Tryz.f223 N (CZ ⟨Abv N,trivial⟩)
def AiD:List (Nat×Nrm):=[(3,⟨[],[],[],[],[]⟩),(10,⟨[3,7,8,9],[],[],[],[]⟩)]
def AjL:Lk:=⟨[],[(10,⟨[(3,.c AO),(7,.i),(8,.i),(9,.c x64)],[(33536,.box [xs,x64,xs])]⟩,[(0,⟨[],[]⟩)])]⟩
def Aar:Sig:=.of [.cell false (.sl 73 Tq0),Sq1] [DK] (fun a=>aB N a.1 a.2)
theorem AeV:Dc 228 (Aar N):=Di (Dh [(281,Xi N)] AiD) AjL Tryz.f228 N (CZ ⟨kZ N,trivial⟩)
def UE:Sig:=.of [pJ] [Ad7] (fun a=>Md N a)
theorem Xc:Dc 47 (UE N):=Di (Dh [(16,Hm N),(96,Aaa N)] []) ⟨[],[]⟩ Tryz.f47 N (CZ ⟨G9 N,Aez N,trivial⟩)
def oP:List (Nat×Nrm):=[(3,⟨[3],[([3],9,Au,1004096)],[],[(1000000,1004096)],[]⟩),(14,⟨[3,6,7,8],[([3],9,Au,1000000)],[],[(39168,1000000)],[]⟩)]
def vH:Lk:=⟨[],[(14,⟨[(3,.c (xo 1000000)),(6,.i),(7,.i),(8,.c x64)],[(1000000,.arr 9 false Au)]⟩,[(0,⟨[(3,.c (xo 1004096))],[(1004096,.arr 9 false Au)]⟩)])]⟩
def VQ:Sig:=.of [.cell false (.sl 73 Tq0)] [Sq8] (fun a=>Nr N a)
theorem gW:Dc 181 (VQ N):=Di (Dh [(191,Vo N),(73,Fg N)] oP) vH Tryz.f181 N (CZ ⟨UQ N,EJ N,trivial⟩)
def vO:List (Nat×Nrm):=[(3,⟨[],[],[],[],[]⟩),(10,⟨[0,8,9,10],[],[],[],[]⟩)]
def yX:Lk:=⟨[],[(10,⟨[(0,.i),(8,.i),(9,.i),(10,.c x64)],[]⟩,[(0,⟨[],[]⟩)])]⟩
def Xm:Sig:=.of [.cell false (.sl 183 Tq4)] [Df] (fun a=>Om N a)
theorem lJ:Dc 295 (Xm N):=Di (Dh [(154,QY N),(317,vK N),(318,mZ N)] vO) yX Tryz.f295 N (CZ ⟨Uo N,Ads N,Abl N,trivial⟩)
def nP:Sig:=.of [Dn,Df] [KD,Df] (fun a=>QC N a.1 a.2)
theorem Abx:Dc 130 (nP N):=Di (Dh [(70,bV N)] []) ⟨[],[]⟩ Tryz.f130 N (CZ ⟨gJ N,trivial⟩)
def Qm:Sig:=.of [] [Dn] (fun _=>Jm N)
theorem TU:Dc 129 (Qm N):=Di (Dh [(191,Vo N),(73,Fg N)] []) ⟨[],[]⟩ Tryz.f129 N (CZ ⟨UQ N,EJ N,trivial⟩)
def AaH:List (Nat×Nrm):=[(49,⟨[1,6],[],[],[],[]⟩)]
def Acn:Lk:=⟨[(49,⟨[(1,.c AU),(6,.c (xo 36864))],[(33024,.box [xs,xb,xs]),(36864,.arr 9 false Au)]⟩)],[]⟩
def ZC:Sig:=.of [Ahj] [Dn,Df] (fun a=>N7 N a)
theorem rM:Dc 142 (ZC N):=Di (Dh [(135,Tz N),(136,JA N),(200,Qk N)] AaH) Acn Tryz.f142 N (CZ ⟨TA N,Iw N,TJ N,trivial⟩)
def PX:Sig:=.of [Sq1] [Dn,Df] (fun a=>Ht N a)
theorem Wq:Dc 137 (PX N):=Di (Dh [(135,Tz N),(136,JA N)] []) ⟨[],[]⟩ Tryz.f137 N (CZ ⟨TA N,Iw N,trivial⟩)
def NW:Sig:=.of [] [Dn] (fun _=>Gy N)
theorem Qz:Dc 77 (NW N):=Di (Dh [(135,Tz N),(136,JA N)] []) ⟨[],[]⟩ Tryz.f77 N (CZ ⟨TA N,Iw N,trivial⟩)
def Ip:Sig:=.of [Dn,Df] [KD,Df] (fun a=>Gj N a.1 a.2)
theorem LW:Dc 103 (Ip N):=Di (Dh [(162,RV N)] []) ⟨[],[]⟩ Tryz.f103 N (CZ ⟨Pm N,trivial⟩)
def JH (N:Nat):Alt:=.of [.cell false .str] [Qb,.cell false (.int .i64)] [.cell false .ptr,.cell false (.int .i64)] (fun a=>GR N a)
theorem MO:Spec Tryz.prog 104 (JH N).1/\Spec Tryz.prog 104 (JH N).2.1:=Pv (C:=ctx Tryz.prog [(163,J9 N)] []) (L:=⟨[],[]⟩) (fn:=Tryz.f104) (N:=N) (CZ ⟨Iu N,trivial⟩) (by kernel_rfl) (by kernel_rfl) (fun a=>by kernel_rfl)
def OL:Sig:=.of [KD] [Df] (fun a=>IM N a)
theorem V8:Dc 112 (OL N):=Di (Dh [(163,J9 N),(172,Tu N)] []) ⟨[],[]⟩ Tryz.f112 N (CZ ⟨Iu N,Tv N,trivial⟩)
def Ym:List (Nat×Nrm):=[(85,⟨[2,4,5,7],[],[],[],[]⟩)]
def Zl:Lk:=⟨[(85,⟨[(2,.c AB),(4,.c AP),(5,.i),(7,.i)],[(33280,.box [A8,A7,A8]),(33792,.box [A8,A7,A8])]⟩)],[]⟩
def PW:Sig:=.of [KD] [Sq1,Df] (fun a=>Rt N a)
theorem Wp:Dc 235 (PW N):=Di (Dh [(163,J9 N),(172,Tu N)] Ym) Zl Tryz.f235 N (CZ ⟨Iu N,Tv N,trivial⟩)
def AbY:List (Nat×Nrm):=[(3,⟨[1,4],[],[],[],[]⟩),(30,⟨[1,4,5],[],[],[],[]⟩)]
def AdO:Lk:=⟨[],[(30,⟨[(1,.c AU),(4,.c x64),(5,.c x64)],[(33024,.box BG)]⟩,[(0,⟨[(1,.c AU),(4,.c x64)],[(33024,.box BG)]⟩)])]⟩
def dZ:Sig:=.of [Ak8] [Df,Df] (fun a=>qV N a)
theorem yD:Dc 237 (dZ N):=Di (Dh [(197,Wl N),(196,Wj N)] AbY [] [] [] [9,13,14,18,19,23,24,28,29,38,42,46,47,51,52,56,57,61,62,66]) AdO Tryz.f237 N (CZ ⟨Yh N,Yg N,trivial⟩)
def Ah4:List (Nat×Nrm):=[(3,⟨[],[],[],[],[]⟩),(10,⟨[3,7,8,9],[],[],[],[]⟩)]
def Ajs:Lk:=⟨[],[(10,⟨[(3,.c AO),(7,.i),(8,.i),(9,.c x64)],[(33536,.box [xs,x64,xs])]⟩,[(0,⟨[],[]⟩)])]⟩
def zJ:Sig:=.of [.cell false (.sl 73 Tq0),Sq1] [DK] (fun a=>Z8 N a.1 a.2)
theorem AdX:Dc 277 (zJ N):=Di (Dh [(310,wO N)] Ah4) Ajs Tryz.f277 N (CZ ⟨Ady N,trivial⟩)
def jL:List (Nat×Nrm):=[(3,⟨[0,4],[],[(none,4,Ar)],[],[]⟩),(13,⟨[0,1],[],[],[],[]⟩),(22,⟨[0,4],[],[(none,4,Ar)],[],[41728]⟩)]
def o8:Lk:=⟨[(13,⟨[(0,.c AL),(1,.i)],[(0,.box Bo)]⟩)],[(22,⟨[(0,.c AL),(4,.c Bg)],[(0,.box Bo)]⟩,[(0,⟨[(0,.c AL),(4,.c Bg)],[(0,.box Bo)]⟩)])]⟩
def Um:Sig:=.of [Sq4,Dn] [] (fun a=>LJ N a.1 a.2)
theorem aZ:Dc 283 (Um N):=Di (Dh [(312,UB N),(313,OE N)] jL) o8 Tryz.f283 N (CZ ⟨Xb N,Ry N,trivial⟩)
def rZ:List (Nat×Nrm):=[(3,⟨[3,4,5],[],[],[(41984,1008192),(1004096,1008192)],[1008192]⟩),(11,⟨[3,4],[],[],[],[]⟩),(19,⟨[3],[],[],[],[]⟩),(27,⟨[7],[],[],[],[]⟩),(29,⟨[3,4,5],[([4],5,Ar,1000000)],[],[(41216,1000000)],[]⟩),(34,⟨[3,4,5],[],[],[(41984,1004096),(43776,1004096)],[]⟩),(46,⟨[3,4,5,6],[],[],[(47616,1008192)],[]⟩),(58,⟨[3,4],[],[(none,4,Ar)],[],[]⟩),(78,⟨[7,68,69],[([7],5,Ar,1028672)],[],[(54528,1028672)],[]⟩)]
def yH:Lk:=⟨[(29,⟨[(3,.c (.c (.Ea 33536 0 0))),(4,.c (xo 1000000)),(5,.c x64)],[(0,.box Bo),(33536,.arr 305 false Az),(1000000,.arr 5 false Ar)]⟩)],[(34,⟨[(3,.c (.c (.Ea 33536 0 0))),(4,.c (xo 1004096)),(5,.i)],[(0,.box Bo),(33536,.arr 305 false Az),(1004096,.arr 5 false Ar)]⟩,[(0,⟨[(3,.c (.c (.Ea 33536 0 0))),(4,.c (xo 1008192)),(5,.i)],[(0,.box Bo),(33536,.arr 305 false Az),(1008192,.arr 5 true Ar)]⟩)]),(46,⟨[(3,.c (.c (.Ea 33536 0 0))),(4,.c (xo 1008192)),(5,.i),(6,.c x64)],[(0,.box Bo),(33536,.arr 305 false Az),(1008192,.arr 5 true Ar)]⟩,[(2,⟨[(3,.c (.c (.Ea 33536 0 0))),(4,.c (xo 1008192))],[(0,.box Bo),(33536,.arr 305 false Az),(1008192,.arr 5 true Ar)]⟩)]),(58,⟨[(3,.c (.c (.Ea 33536 0 0))),(4,.c Bg)],[(0,.box Bo),(33536,.arr 305 false Az)]⟩,[(4,⟨[(3,.c (.c (.Ea 33536 0 0)))],[(0,.box Bo),(33536,.arr 305 false Az)]⟩)]),(78,⟨[(7,.c (xo 1028672)),(68,.i),(69,.c x64)],[(0,.box Bo),(1028672,.arr 5 false Ar)]⟩,[(6,⟨[(7,.c (xo 1028672))],[(0,.box Bo),(1028672,.arr 5 false Ar)]⟩)])]⟩
def Xa:Sig:=.of [Sq4] [Dn] (fun a=>Og N a)
theorem jK:Dc 284 (Xa N):=Di (Dh [(312,UB N),(313,OE N)] rZ) yH Tryz.f284 N (CZ ⟨Xb N,Ry N,trivial⟩)
def Aab:Sig:=.of [Df] [Dn] (fun a=>V9 N a)
theorem Ae0:Dc 23 (Aab N):=Di (Dh [(54,Adr N),(53,Aao N)] []) ⟨[],[]⟩ Tryz.f23 N (CZ ⟨Ag9 N,AeP N,trivial⟩)
def bK:Sig:=.of [Dn] [DK] (fun a=>VG N a)
theorem fQ:Dc 148 (bK N):=Di (Dh [(192,kK N)] []) ⟨[],[]⟩ Tryz.f148 N (CZ ⟨mV N,trivial⟩)
def Afu (N n:Nat):Sig:=.of [.cell false (.int .u8)] [.cell false .bool] (Akm N n)
theorem Ale:iK Tryz.prog (Afu N):=Akn (Dk:=[.cell false (.int .u8)]) (D6:=[.cell false .bool]) (l:=[(207,fun a=>Za N a),(210,fun a=>Zb N a)]) ⟨zA N,zB N,trivial⟩
def Aj4:List (Nat×Nrm):=[(3,⟨[],[],[],[],[]⟩),(18,⟨[9,10,11],[],[],[],[]⟩)]
def Al1:Lk:=⟨[],[(18,⟨[(9,.i),(10,.i),(11,.c x64)],[]⟩,[(0,⟨[],[]⟩)])]⟩
def SQ:Sig:=.of [Dn] [DK] (fun a=>Lt N a)
theorem QI:Dc 269 (SQ N):=Di (Dh [(256,Oo N),(303,sJ N)] Aj4) Al1 Tryz.f269 N (CZ ⟨VU N,Ac7 N,trivial⟩)
def Hf:Sig:=.of [.box [(false,.bool)],Sq8] [Dn] (fun a=>DX N a.1 a.2)
theorem G8:Dc 75 (Hf N):=Di (Dh [(81,EY N)] []) ⟨[],[]⟩ Tryz.f75 N (CZ ⟨EN N,trivial⟩)
def AfW:List (Nat×Nrm):=[(3,⟨[],[],[],[],[]⟩),(18,⟨[0,1,12,13],[],[],[],[]⟩)]
def Ah5:Lk:=⟨[],[(18,⟨[(0,.i),(1,.i),(12,.i),(13,.c x64)],[]⟩,[(0,⟨[],[]⟩)])]⟩
def rD:Sig:=.of [.cell false (.sl 73 Tq0),.cell false (.sl 73 Tq0)] [DK] (fun a=>Acj N a.1 a.2)
theorem Ack:Dc 217 (rD N):=Di (Dh [(277,zJ N)] AfW) Ah5 Tryz.f217 N (CZ ⟨AdX N,trivial⟩)
def Aj3:List (Nat×Nrm):=[(3,⟨[3],[],[],[],[]⟩),(14,⟨[3,7,8,9],[],[],[],[]⟩)]
def Al0:Lk:=⟨[],[(14,⟨[(3,.c AV),(7,.i),(8,.i),(9,.c x64)],[(34304,.box Bo)]⟩,[(0,⟨[(3,.c AV)],[(34304,.box Bo)]⟩)])]⟩
def Ac2:Sig:=.of [Sq8] [Dn] (fun a=>jM N a)
theorem Aga:Dc 229 (Ac2 N):=Di (Dh [(282,rY N),(283,Um N),(284,Xa N)] Aj3) Al0 Tryz.f229 N (CZ ⟨Ac1 N,aZ N,jK N,trivial⟩)
def AjU:List (Nat×Nrm):=[(3,⟨[],[],[],[],[]⟩),(10,⟨[0,1,5],[],[],[],[]⟩)]
def Amt:Lk:=⟨[],[(10,⟨[(0,.i),(1,.i),(5,.c x64)],[]⟩,[(0,⟨[],[]⟩)])]⟩
def Ad0:Sig:=.of [Dn,.cell false .fn] [DK] (fun a=>Ab5 N a.1 a.2)
theorem AgG:Dc 206 (Ad0 N):=Di (Dh [] AjU [] [(12,Afu N)]) Amt Tryz.f206 N (CZ trivial trivial ⟨Ale N,trivial⟩)
def bC:Sig:=.of [Dn] [DK] (fun a=>V7 N a)
theorem fC:Dc 212 (bC N):=Di (Dh [(271,nT N),(272,sK N),(269,SQ N)] [] [] [] [] [13,17,18,21,22,25]) ⟨[],[]⟩ Tryz.f212 N (CZ ⟨Ab0 N,Ac8 N,QI N,trivial⟩)
def zT:Sig:=.of [Dn] [DK] (fun a=>sF N a)
theorem Aep:Dc 213 (zT N):=Di (Dh [(269,SQ N)] []) ⟨[],[]⟩ Tryz.f213 N (CZ ⟨QI N,trivial⟩)
def fD:Sig:=.of [Dn] [DK] (fun a=>Yw N a)
theorem yJ:Dc 214 (fD N):=Di (Dh [(273,Us N),(269,SQ N),(274,Pj N)] []) ⟨[],[]⟩ Tryz.f214 N (CZ ⟨dD N,QI N,RU N,trivial⟩)
def AfQ:List (Nat×Nrm):=[(3,⟨[2,4,5,6],[],[],[],[]⟩),(11,⟨[2,4,5,6,7],[],[],[],[]⟩),(22,⟨[2,4,5,6],[],[],[],[]⟩),(38,⟨[2,4,5,6,7],[],[],[],[]⟩)]
def Ah1:Lk:=⟨[],[(22,⟨[(2,.c AB),(4,.i),(5,.i),(6,.c x64)],[(33280,.box Bv)]⟩,[(0,⟨[(2,.c AB),(4,.i),(5,.i),(6,.c x64)],[(33280,.box Bv)]⟩)]),(38,⟨[(2,.c AB),(4,.c x64),(5,.i),(6,.i),(7,.c x64)],[(33280,.box Bv)]⟩,[(2,⟨[(2,.c AB),(4,.c x64),(5,.i),(6,.i),(7,.c x64)],[(33280,.box Bv)]⟩)])]⟩
def qU:Sig:=.of [Df] [Ak8,Df] (fun a=>AbW N a)
theorem AbX:Dc 139 (qU N):=Di (Dh [(196,Wj N),(197,Wl N)] AfQ) Ah1 Tryz.f139 N (CZ ⟨Yg N,Yh N,trivial⟩)
def Aaw:Sig:=.of [Dn] [Df] (fun a=>VV N a)
theorem Aff:Dc 199 (Aaw N):=Di (Dh [(162,RV N),(265,wV N)] []) ⟨[],[]⟩ Tryz.f199 N (CZ ⟨Pm N,Ad3 N,trivial⟩)
def Aci:List (Nat×Nrm):=[(3,⟨[],[],[],[],[]⟩),(18,⟨[2,3,15,16],[],[],[],[]⟩)]
def AdW:Lk:=⟨[],[(18,⟨[(2,.c AB),(3,.c AO),(15,.i),(16,.c x64)],[(33280,.box [Bc]),(33536,.box [Bc])]⟩,[(0,⟨[],[]⟩)])]⟩
def eG:Sig:=.of [Sq0,Sq0] [DK] (fun a=>Yk N a.1 a.2)
theorem yF:Dc 153 (eG N):=Di (Dh [(217,rD N)] Aci) AdW Tryz.f153 N (CZ ⟨Ack N,trivial⟩)
def JM:Sig:=.of [Sq8] [Dn] (fun a=>FZ N a)
theorem Jg:Dc 159 (JM N):=Di (Dh [(229,Ac2 N)] []) ⟨[],[]⟩ Tryz.f159 N (CZ ⟨Aga N,trivial⟩)
def wP:Sig:=.of [Df,Dn] [DK] (fun a=>lW N a.1 a.2)
theorem Adz:Dc 149 (wP N):=Di (Dh [(205,Ad1 N),(206,Ad0 N)] []) ⟨[],[]⟩ Tryz.f149 N (CZ ⟨AgH N,AgG N,trivial⟩)
def ZG:Sig:=.of [Dn] [DK] (fun a=>Wx N a)
theorem sG:Dc 211 (ZG N):=Di (Dh [(212,bC N),(270,Ui N),(269,SQ N)] []) ⟨[],[]⟩ Tryz.f211 N (CZ ⟨fC N,Zt N,QI N,trivial⟩)
def AdN:List (Nat×Nrm):=[(3,⟨[6,7],[],[],[],[]⟩),(37,⟨[4,6,7],[],[],[(38144,1000000),(39680,1000000)],[]⟩),(42,⟨[6,7,38,39,40],[],[],[(44544,1000000)],[]⟩)]
def AfS:Lk:=⟨[(37,⟨[(4,.c AP),(6,.c x64),(7,.c (xo 1000000))],[(33792,.box BG),(1000000,.arr 5 false Ar)]⟩)],[(42,⟨[(6,.i),(7,.c (xo 1000000)),(38,.c (xo 42496)),(39,.i),(40,.c x64)],[(42496,.arr 3 false Aw),(1000000,.arr 5 false Ar)]⟩,[(0,⟨[(6,.i),(7,.c (xo 1000000))],[(1000000,.arr 5 false Ar)]⟩)])]⟩
def Wh:Sig:=.of [Df] [Dn,Df] (fun a=>FW N a)
theorem Yf:Dc 80 (Wh N):=Di (Dh [(139,qU N),(140,Acd N),(136,JA N)] AdN) AfS Tryz.f80 N (CZ ⟨AbX N,AfU N,Iw N,trivial⟩)
def AhD:List (Nat×Nrm):=[(3,⟨[],[],[],[],[]⟩),(30,⟨[3,15,16,17],[],[],[],[]⟩)]
def Ajx:Lk:=⟨[],[(30,⟨[(3,.c (xo 36352)),(15,.i),(16,.i),(17,.c x64)],[(36352,.mp Au Aw)]⟩,[(0,⟨[],[]⟩)])]⟩
def aV:Sig:=.of [.cell false (.sl 183 Tq4)] [Df] (fun a=>Rw N a)
theorem eQ:Dc 141 (aV N):=Di (Dh [(198,zK N),(148,bK N),(199,Aaw N)] AhD) Ajx Tryz.f141 N (CZ ⟨Aef N,fQ N,Aff N,trivial⟩)
def Jp:Sig:=.of [.box [(false,.bool)],.box [(false,.str)],.box [(false,.str)]] [Dn] (fun a=>JC N a.1 a.2.1 a.2.2)
theorem Aa8:Dc 146 (Jp N):=Di (Dh [(77,NW N),(147,gG N),(78,FX N),(81,EY N),(75,Hf N)] []) ⟨[],[]⟩ Tryz.f146 N (CZ ⟨Qz N,yM N,FP N,EN N,G8 N,trivial⟩)
def P7 (N:Nat):Alt:=.of [.cell false .str,.cell false (.int .i64)] [Qb,.cell false (.int .i64)] [.cell false .ptr,.cell false (.int .i64)] (fun a=>Ls N a.1 a.2)
theorem SE:Spec Tryz.prog 56 (P7 N).1/\Spec Tryz.prog 56 (P7 N).2.1:=Pv (C:=ctx Tryz.prog [(103,Ip N)] [] [(104,JH N)]) (L:=⟨[],[]⟩) (fn:=Tryz.f56) (N:=N) (CZ ⟨LW N,trivial⟩ ⟨MO N,trivial⟩) (by kernel_rfl) (by kernel_rfl) (fun a=>by kernel_rfl)
end
