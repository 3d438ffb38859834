import Derived.Test.YtmgpaalplkkpnaaGreatDoorA10
import Derived.Test.YtmgpaalplkkpnaaGreatDoorA11
set_option linter.all false
namespace Go.Proofs.YtmgpaalplkkpnaaGreatDoor.Vm
noncomputable section
variable (N:Nat)
open Go.Proofs Go.Proofs.Tryz
def Aat:Sig:=.of [RP] [J3] (Zy N)
def AfZ:Jy 112 (Aat N):=J5 (J4 [] [] [] [] [] [6,10,11,16,17,22]) A56 f112 N (Jw trivial)
def Al3:A55:=[A53 3 [4],A53 22 [4,12,13,14]]
def An3:Lk:=⟨[],[(22,⟨[(4,.c x64),(12,.c (xo 35840)),(13,.i),(14,.c x64)],[(35840,.arr 5 false Ar)]⟩,[(0,⟨[(4,.c x64)],[]⟩)])]⟩
def Acy:Sig:=.of [J8] [J3,JY] (eU N)
def AhB:Jy 113 (Acy N):=J5 (J4 [] Al3) An3 f113 N (Jw trivial)
def AjA:Sig:=.of [AoG] [oG] (Ah6 N)
def An0:Jy 5 (AjA N):=J5 (J4 [] []) A56 f5 N (Jw trivial)
def AnQ:A55:=[(3,⟨[4],[([4],3,Aw,A4O)],[],[(A4K,A4O)],[]⟩),(11,⟨[0,4,6,8],[([4],3,Aw,A4M)],[],[(A4L,A4M)],[]⟩),(18,⟨[0,4,5,6],[([4],3,Aw,A4K)],[],[(53760,A4K)],[]⟩),(58,⟨[0,4,6,7,8,9],[([4],3,Aw,A4L)],[],[(A4K,A4L)],[]⟩)]
def Aq6:Lk:=⟨[],[(18,⟨[(0,.i),(4,.c (xo A4K)),(5,.c x64),(6,.c x64)],[(A4K,.arr 3 false Aw)]⟩,[(0,⟨[(4,.c (xo A4O))],[(A4O,.arr 3 false Aw)]⟩)]),(58,⟨[(0,.i),(4,.c (xo A4L)),(6,.i),(7,.i),(8,.c x64),(9,.c x64)],[(A4L,.arr 3 false Aw)]⟩,[(2,⟨[(0,.i),(4,.c (xo A4M)),(6,.i),(8,.c x64)],[(A4M,.arr 3 false Aw)]⟩)])]⟩
def rP:Sig:=.of [J8] [AoG,JY] (WO N)
def wJ:Jy 232 (rP N):=J5 (J4 [] AnQ [] [] [] [43,47,48,52,56,57,58,62,88,93,94,99,104,105]) Aq6 f232 N (Jw trivial)
def AnT:A55:=[A53 3 [],A53 10 [0,3],A53 15 [0,3,5,6,7],A53 65 [0,3,4,5,6],A53 82 [0,3,5,6,7,8]]
def Aq8:Lk:=⟨[(65,⟨[(0,.i),(3,.c x64),(4,.i),(5,.c x64),(6,.c x64)],[]⟩)],[(10,⟨[(0,.i),(3,.c x64)],[]⟩,[(0,⟨[],[]⟩)]),(82,⟨[(0,.i),(3,.i),(5,.i),(6,.i),(7,.c x64),(8,.c x64)],[]⟩,[(3,⟨[(0,.i),(3,.i),(5,.i),(6,.i),(7,.c x64)],[]⟩)])]⟩
def AeH:Sig:=.of [J8] [JY] (Akc N)
def Akd:Jy 264 (AeH N):=J5 (J4 [] AnT [] [] [] [87,90,91,94,97,98]) Aq8 f264 N (Jw trivial)
def XY:Sig:=.of [.cell false (.int .u8)] [JY] (XA N)
def Yp:Jy 265 (XY N):=J5 (J4 [] [] [] [] [] [5,8,9,12,15,16,17,20,23,24]) A56 f265 N (Jw trivial)
def AlI:A55:=[A53 3 [],A53 10 [0,1,5]]
def AnG:Lk:=⟨[],[(10,⟨[(0,.i),(1,.i),(5,.c x64)],[]⟩,[(0,⟨[],[]⟩)])]⟩
def jY:Sig:=.of [.cell false (.int .u8),J8] [JY] (fun a=>XB N a.1 a.2)
def rH:Jy 266 (jY N):=J5 (J4 [] AlI) AnG f266 N (Jw trivial)
def lQ:Sig:=.of [Ayn] [JY] (Qq N)
def AbX:Jy 180 (lQ N):=J5 (J4 [] [] [] [] [] [7,11,12,16,17,21,22,26]) A56 f180 N (Jw trivial)
open Go.Proofs Go.Proofs.Tryz
def AeG:Sig:=.of [J3,J3] [J3] (fun a=>AbP N a.1 a.2)
def Akb:Jy 184 (AeG N):=J5 (J4 [] [] [] [] [] [7,11,12,16,20,21]) A56 f184 N (Jw trivial)
def AcV:A55:=[A53 3 [4],(11,⟨[4],[],[(none,4,Ar)],[],[]⟩),(18,⟨[3,4,5],[([4],5,Ar,A4K)],[],[(37632,A4K)],[]⟩),(30,⟨[4],[],[(none,4,Ar)],[],[]⟩)]
def AeE:Lk:=⟨[],[(18,⟨[(3,.i),(4,.c (xo A4K)),(5,.c x64)],[(A4K,.arr 5 false Ar)]⟩,[(0,⟨[(4,.c (xo A4K))],[(A4K,.arr 5 false Ar)]⟩)]),(30,⟨[(4,.c Bg)],[]⟩,[(2,⟨[(4,.c Bg)],[]⟩)])]⟩
def iT:Sig:=.of [J3] [J8] (UG N)
def Aa7:Jy 134 (iT N):=J5 (J4 [] AcV [] [] [] [23,28,33,34,39,44,45,46]) AeE f134 N (Jw trivial)
def AnZ:A55:=[A53 3 [4],A53 10 [1,4,8,9,10]]
def AqC:Lk:=⟨[],[(10,⟨[(1,.i),(4,.c AP),(8,.i),(9,.i),(10,.c x64)],[(A4Q,.box [A8,AA,A8])]⟩,[(0,⟨[(4,.c AP)],[(A4Q,.box [A8,AA,A8])]⟩)])]⟩
def AeS:Sig:=.of [.cell false (.sl 147 Tq4),J8] [AoE,JY] (fun a=>nN N a.1 a.2)
def Akg:Jy 273 (AeS N):=J5 (J4 [] AnZ) AqC f273 N (Jw trivial)
def AnN:A55:=[A53 3 [0,2,5,6,8],A53 70 [0,2,5,6,8,9],A53 97 [0,2,5,6,7]]
def Aq3:Lk:=⟨[(97,⟨[(0,.i),(2,.c AB),(5,.c AQ),(6,.c x64),(7,.c x64)],[(A4N,.box BB),(A4R,.box BB)]⟩)],[(70,⟨[(0,.i),(2,.c AB),(5,.c AQ),(6,.c x64),(8,.i),(9,.c x64)],[(A4N,.box BB),(A4R,.box BB)]⟩,[(0,⟨[(0,.i),(2,.c AB),(5,.c AQ),(6,.c x64),(8,.i)],[(A4N,.box BB),(A4R,.box BB)]⟩)])]⟩
def ZT:Sig:=.of [J8] [RP,J8,J3] (UH N)
def ZU:Jy 73 (ZT N):=J5 (J4 [] AnN) Aq3 f73 N (Jw trivial)
def VY:Sig:=.of [JY] [J8] (UF N)
def YB:Jy 187 (VY N):=J5 (J4 [] []) A56 f187 N (Jw trivial)
def Agd:A55:=[A53 3 [0,4],A53 11 [6],A53 22 [0,4,5],A53 50 [0,4,6,7]]
def AhV:Lk:=⟨[],[(22,⟨[(0,.i),(4,.c x64),(5,.c x64)],[]⟩,[(0,⟨[(0,.i),(4,.c x64)],[]⟩)]),(50,⟨[(0,.i),(4,.i),(6,.c (xo A5b)),(7,.c x64)],[(A5b,.arr 5 false Ar)]⟩,[(2,⟨[(6,.c (xo A5b))],[(A5b,.arr 5 false Ar)]⟩)])]⟩
def rO:Sig:=.of [J3] [J8,J3] (QV N)
def AcU:Jy 188 (rO N):=J5 (J4 [] Agd) AhV f188 N (Jw trivial)
def MH:Sig:=.of [oG,J3] [J3] (fun a=>JK N a.1 a.2)
def LU:Jy 23 (MH N):=J5 (J4 [] []) A56 f23 N (Jw trivial)
open Go.Proofs Go.Proofs.Tryz
def AlR:A55:=[A53 3 [],A53 18 [1,5]]
def AnR:Lk:=⟨[],[(18,⟨[(1,.i),(5,.c xs)],[]⟩,[(0,⟨[],[]⟩)])]⟩
def dK (N n:Nat):Sig:=.of [RP,.cell false (.int .i64)] [.cell false (.int .i64)] (fun a=>Tv N n a.1 a.2)
def lK (N:Nat): ∀ n,Spec Tryz.prog 311 (dK N n)
 | 0=>wU (C:=ctx Tryz.prog [] []) (fn:=f311) (Jw (gs:=[]) trivial)
 | n+1=>XJ (C:=ctx Tryz.prog ((311,dK N n)::[(73,ZT N)]) AlR) (L:=AnR) (fn:=f311) (N:=N) (Jw ⟨lK N n,⟨ZU N,trivial⟩⟩)
def Ac9:Sig:=dK N N
def AhW (N:Nat):Spec Tryz.prog 311 (Ac9 N):=lK N N
def AgD:Sig:=.of [oG] [J3] (VS N)
def Al1:Jy 24 (AgD N):=J5 (J4 [(23,MH N)] []) A56 f24 N (Jw ⟨LU N,trivial⟩)
def qI:Sig:=.of [oG] [Sq5] (WL N)
def AcQ:Jy 136 (qI N):=J5 (J4 [(23,MH N)] []) A56 f136 N (Jw ⟨LU N,trivial⟩)
def jU:Sig:=.of [oG,J8] [J8] (fun a=>X6 N a.1 a.2)
def qH:Jy 8 (jU N):=J5 (J4 [(23,MH N)] []) A56 f8 N (Jw ⟨LU N,trivial⟩)
def AnK:A55:=[(3,⟨[4],[([4],71,Tq5,A4L)],[],[(A4K,A4L)],[]⟩),(10,⟨[0,4],[([4],71,Tq5,A4K)],[],[(38656,A4K)],[]⟩)]
def Aq2:Lk:=⟨[],[(10,⟨[(0,.c xs),(4,.c (xo A4K))],[(A4K,.arr 71 false Tq5)]⟩,[(0,⟨[(4,.c (xo A4L))],[(A4L,.arr 71 false Tq5)]⟩)])]⟩
def AeD:Sig:=.of [J8] [.cell false (.sl 71 Tq5),J3] (nJ N)
def Aka:Jy 30 (AeD N):=J5 (J4 [(73,ZT N)] AnK) Aq2 f30 N (Jw ⟨ZU N,trivial⟩)
open Go.Proofs Go.Proofs.Tryz
def bU:Sig:=.of [] [Ayq] (fun _=>Zm N)
def kY:Jy 306 (bU N):=J5 (J4 [] []) A56 f306 N (Jw trivial)
def Ag5:Sig:=.of [.cell false (.int .u32),.cell false (.int .u64)] [.cell false (.int .u32)] (fun a=>PW N a.1 a.2)
def Alj:Jy 336 (Ag5 N):=J5 (J4 [] []) A56 f336 N (Jw trivial)
def Acs:Sig:=.of [] [A42] (fun _=>Ag4 N)
def Ahx:Jy 337 (Acs N):=J5 (J4 [] []) A56 f337 N (Jw trivial)
def RH:Sig:=.of [Akz] [JY] (NW N)
def Tu:Jy 117 (RH N):=J5 (J4 [] []) A56 f117 N (Jw trivial)
def AlT:A55:=[A53 3 [0,5,6],A53 11 [0,5,6],A53 18 [0,1,5,6,7],A53 19 [0,13,14,15,16,17,18,19,20],A53 34 [0,5,6,8],A53 66 [0,5,6,13,14,15,16,17,18,19,20,21]]
def AnS:Lk:=⟨[],[(18,⟨[(0,.i),(1,.i),(5,.c (xo A5f)),(6,.c (.c (.Kt A4S 0 0))),(7,.c x64)],[(A4S,.arr 213 false Az),(A5f,.arr 165 false Az)]⟩,[(0,⟨[(0,.i),(5,.c (xo A5f)),(6,.c (.c (.Kt A4S 0 0)))],[(A4S,.arr 213 false Az),(A5f,.arr 165 false Az)]⟩)]),(34,⟨[(0,.i),(5,.c (xo A5f)),(6,.c (.c (.Kt A4S 0 0))),(8,.c x64)],[(A4S,.arr 213 false Az),(A5f,.arr 165 false Az)]⟩,[(2,⟨[(0,.i),(5,.c (xo A5f)),(6,.c (.c (.Kt A4S 0 0)))],[(A4S,.arr 213 false Az),(A5f,.arr 165 false Az)]⟩)]),(66,⟨[(0,.i),(5,.c (xo A5f)),(6,.c (.c (.Kt A4S 0 0))),(13,.c Ba),(14,.c Ba),(15,.c Ba),(16,.c Ba),(17,.c Ba),(18,.c Ba),(19,.c Ba),(20,.c Ba),(21,.c x64)],[(A4S,.arr 213 false Az),(A5f,.arr 165 false Az)]⟩,[(4,⟨[(0,.i),(13,.c Ba),(14,.c Ba),(15,.c Ba),(16,.c Ba),(17,.c Ba),(18,.c Ba),(19,.c Ba),(20,.c Ba)],[]⟩)])]⟩
def AcA:Sig:=.of [A22,J8] [A22] (fun a=>AgP N a.1 a.2)
def AhX:Jy 109 (AcA N):=J5 (J4 [] AlT) AnS f109 N (Jw trivial)
def Akf:Sig:=.of [J3] [J8] (AqB N)
def AnY:Jy 53 (Akf N):=J5 (J4 [] []) A56 f53 N (Jw trivial)
def rJ (N n:Nat):Sig:=.of [.cell false (.int .i64)] [.cell false .str] (fun a=>iR N n a)
def wG (N:Nat): ∀ n,Spec Tryz.prog 54 (rJ N n)
 | 0=>wU (C:=ctx Tryz.prog [] []) (fn:=f54) (Jw (gs:=[]) trivial)
 | n+1=>XJ (C:=ctx Tryz.prog ((54,rJ N n)::[]) []) (L:=⟨[],[]⟩) (fn:=f54) (N:=N) (Jw ⟨wG N n,trivial⟩)
def yH:Sig:=rJ N N
def Aa6 (N:Nat):Spec Tryz.prog 54 (yH N):=wG N N
def QK:Sig:=.of [Aha] [JY] (OD N)
def RX:Jy 59 (QK N):=J5 (J4 [] []) A56 f59 N (Jw trivial)
open Go.Proofs Go.Proofs.Tryz
def AlV:A55:=[(3,⟨[5],[([5],9,Au,A4L)],[],[(A4K,A4L)],[]⟩),(18,⟨[0,1,5,6,7],[([5],9,Au,A4K)],[],[(40704,A4K)],[]⟩)]
def AnV:Lk:=⟨[],[(18,⟨[(0,.i),(1,.i),(5,.c (xo A4K)),(6,.c x64),(7,.c x64)],[(A4K,.arr 9 false Au)]⟩,[(0,⟨[(5,.c (xo A4L))],[(A4L,.arr 9 false Au)]⟩)])]⟩
def kF:Sig:=.of [J8,.cell false (.int .u8)] [Sq6] (fun a=>fG N a.1 a.2)
def rX:Jy 310 (kF N):=J5 (J4 [] AlV) AnV f310 N (Jw trivial)
def AlU:A55:=[A53 3 [],A53 26 [0,3,4,5]]
def AnU:Lk:=⟨[],[(26,⟨[(0,.i),(3,.i),(4,.c xb),(5,.c x64)],[]⟩,[(0,⟨[],[]⟩)])]⟩
def AcB:Sig:=.of [J8] [JY] (yI N)
def AhY:Jy 271 (AcB N):=J5 (J4 [] AlU [] [] [] [37,39,40,43,54,55]) AnU f271 N (Jw trivial)
def wK:Sig:=.of [J8] [JY] (kD N)
def AeI:Jy 272 (wK N):=J5 (J4 [] []) A56 f272 N (Jw trivial)
def AlM:A55:=[A53 3 [3],A53 14 [3,8,9]]
def AnL:Lk:=⟨[],[(14,⟨[(3,.c (xo A4S)),(8,.i),(9,.c x64)],[(A4S,.arr 5 false Ar)]⟩,[(0,⟨[(3,.c (xo A4S))],[(A4S,.arr 5 false Ar)]⟩)])]⟩
def Ac7:Sig:=.of [J8] [J8] (AgM N)
def AhT:Jy 338 (Ac7 N):=J5 (J4 [] AlM) AnL f338 N (Jw trivial)
def AaH:Sig:=.of [J3] [JY] (TZ N)
def Agm:Jy 182 (AaH N):=J5 (J4 [] [] [] [] [] [5,8,9,12,15,16]) A56 f182 N (Jw trivial)
def AnO:A55:=[A53 3 [0,6],A53 22 [0,6,22,23,24],(77,⟨[6,10],[],[],[(43008,A4M),(46592,A4M),(49408,A4M),(51456,A4M)],[]⟩)]
def Aq5:Lk:=⟨[(77,⟨[(6,.i),(10,.c (xo A4M))],[(A4M,.arr 5 false Ar)]⟩)],[(22,⟨[(0,.i),(6,.c xs),(22,.i),(23,.i),(24,.c x64)],[]⟩,[(0,⟨[(0,.i),(6,.c xs)],[]⟩)])]⟩
def ZW:Sig:=.of [J3,Sq6] [J8,J3] (fun a=>UI N a.1 a.2)
def ZX:Jy 74 (ZW N):=J5 (J4 [] AnO) Aq5 f74 N (Jw trivial)
def AlO:A55:=[(3,⟨[3],[([3],9,Au,A4O)],[],[(A4K,A4O)],[]⟩),(11,⟨[3,5,6,10,11,12],[([3],9,Au,A4M)],[],[(A4L,A4M)],[A4M]⟩),(14,⟨[3,10,11,12],[([3],9,Au,A4K)],[],[(43008,A4K)],[]⟩),A53 19 [7],(26,⟨[3,5,6,10,11,12],[([3],9,Au,A4L)],[],[(A4K,A4L)],[]⟩),A53 50 [7,42,43,44]]
def AnM:Lk:=⟨[],[(14,⟨[(3,.c (xo A4K)),(10,.i),(11,.i),(12,.c x64)],[(A4K,.arr 9 false Au)]⟩,[(0,⟨[(3,.c (xo A4O))],[(A4O,.arr 9 false Au)]⟩)]),(26,⟨[(3,.c (xo A4L)),(5,.i),(6,.c x64),(10,.i),(11,.i),(12,.i)],[(A4L,.arr 9 false Au)]⟩,[(2,⟨[(3,.c (xo A4M)),(5,.i),(6,.c x64),(10,.i),(11,.i),(12,.i)],[(A4M,.arr 9 true Au)]⟩)]),(50,⟨[(7,.c xs),(42,.c (xo A4O)),(43,.i),(44,.c x64)],[(A4O,.arr 9 false Au)]⟩,[(4,⟨[(7,.c xs)],[]⟩)])]⟩
def Ac8:Sig:=.of [Sq6] [J8] (fE N)
def AhU:Jy 124 (Ac8 N):=J5 (J4 [] AlO) AnM f124 N (Jw trivial)
def Aa8:Sig:=.of [J3] [J3] (rQ N)
def Agg:Jy 183 (Aa8 N):=J5 (J4 [] []) A56 f183 N (Jw trivial)
open Go.Proofs Go.Proofs.Tryz
def Aq9:A55:=[A53 3 [],A53 11 [10,11,12],A53 18 [10,11,12],A53 38 [4,5,10,11,12]]
def Asg:Lk:=⟨[],[(18,⟨[(10,.i),(11,.i),(12,.c x64)],[]⟩,[(0,⟨[],[]⟩)]),(38,⟨[(4,.i),(5,.c x64),(10,.i),(11,.i),(12,.i)],[]⟩,[(2,⟨[(10,.i),(11,.i),(12,.i)],[]⟩)])]⟩
def XD:Sig:=.of [J8] [JY] (Pv N)
def WQ:Jy 308 (XD N):=J5 (J4 [(310,kF N),(265,XY N)] Aq9 [] [] [] [19,23,24,28,29,36]) Asg f308 N (Jw ⟨rX N,Yp N,trivial⟩)
def AnI:A55:=[(3,⟨[3],[([3],5,Ar,A4L)],[],[(A4K,A4L)],[]⟩),(18,⟨[0,3,4],[([3],5,Ar,A4K)],[],[(A5l,A4K)],[]⟩)]
def Aq1:Lk:=⟨[],[(18,⟨[(0,.i),(3,.c (xo A4K)),(4,.c x64)],[(A4K,.arr 5 false Ar)]⟩,[(0,⟨[(3,.c (xo A4L))],[(A4L,.arr 5 false Ar)]⟩)])]⟩
def AeC:Sig:=.of [J8] [J8] (AbM N)
def AjZ:Jy 312 (AeC N):=J5 (J4 [(338,Ac7 N)] AnI) Aq1 f312 N (Jw ⟨AhT N,trivial⟩)
def LD:Sig:=.of [J3,Sq6] [J8] (fun a=>JV N a.1 a.2)
def La:Jy 31 (LD N):=J5 (J4 [(74,ZW N)] []) A56 f31 N (Jw ⟨ZX N,trivial⟩)
def AeB:A55:=[(3,⟨[6],[([6],5,Ar,A4V)],[],[(A4K,A4V)],[]⟩),(11,⟨[6,9,30,31,32],[([6],5,Ar,A4M)],[],[(A4W,A4M)],[]⟩),(19,⟨[6,9,30,31,32],[([6],5,Ar,A4T)],[],[(A4O,A4T)],[]⟩),(30,⟨[6,30,31,32],[([6],5,Ar,A4K)],[],[(48384,A4K)],[]⟩),(42,⟨[6,8,9,30,31,32],[([9],5,Ar,A4L),([6],5,Ar,A4W)],[],[(A5m,A4L),(A4K,A4W)],[]⟩),(58,⟨[6,9,10,30,31,32],[([6],5,Ar,A4O)],[],[(A4M,A4O)],[]⟩)]
def Agc:Lk:=⟨[],[(30,⟨[(6,.c (xo A4K)),(30,.c (xo A5b)),(31,.i),(32,.c x64)],[(A5b,.arr 3 false Aw),(A4K,.arr 5 false Ar)]⟩,[(0,⟨[(6,.c (xo A4V))],[(A4V,.arr 5 false Ar)]⟩)]),(42,⟨[(6,.c (xo A4W)),(8,.c x64),(9,.c (xo A4L)),(30,.c (xo A5b)),(31,.i),(32,.i)],[(A5b,.arr 3 false Aw),(A4L,.arr 5 false Ar),(A4W,.arr 5 false Ar)]⟩,[(2,⟨[(6,.c (xo A4M)),(9,.c (xo A5m)),(30,.c (xo A5b)),(31,.i),(32,.i)],[(A5b,.arr 3 false Aw),(A5m,.arr 5 false Ar),(A4M,.arr 5 false Ar)]⟩)]),(58,⟨[(6,.c (xo A4O)),(9,.c (xo A5m)),(10,.c x64),(30,.c (xo A5b)),(31,.i),(32,.i)],[(A5b,.arr 3 false Aw),(A5m,.arr 5 false Ar),(A4O,.arr 5 false Ar)]⟩,[(4,⟨[(6,.c (xo A4T)),(9,.c (xo A5m)),(30,.c (xo A5b)),(31,.i),(32,.i)],[(A5b,.arr 3 false Aw),(A5m,.arr 5 false Ar),(A4T,.arr 5 false Ar)]⟩)])]⟩
def lH:Sig:=.of [J8] [J8,J3] (wH N)
def AbL:Jy 189 (lH N):=J5 (J4 [(232,rP N)] AeB) Agc f189 N (Jw ⟨wJ N,trivial⟩)
def AlK:A55:=[A53 3 [0,2,4,5],A53 11 [0,2,4,5,6],A53 22 [0,2,4,5],A53 38 [0,2,4,5,6]]
def AnH:Lk:=⟨[],[(22,⟨[(0,.i),(2,.c AB),(4,.i),(5,.c x64)],[(A4N,.box Bv)]⟩,[(0,⟨[(0,.i),(2,.c AB),(4,.i),(5,.c x64)],[(A4N,.box Bv)]⟩)]),(38,⟨[(0,.i),(2,.c AB),(4,.c x64),(5,.i),(6,.c x64)],[(A4N,.box Bv)]⟩,[(2,⟨[(0,.i),(2,.c AB),(4,.c x64),(5,.i),(6,.c x64)],[(A4N,.box Bv)]⟩)])]⟩
def Ac6:Sig:=.of [J3] [Sq7,J3] (AgL N)
def AhS:Jy 126 (Ac6 N):=J5 (J4 [(183,Aa8 N),(184,AeG N)] AlK) AnH f126 N (Jw ⟨Agg N,Akb N,trivial⟩)
def Aq7:A55:=[A53 3 [5],A53 10 [1,5]]
def Asf:Lk:=⟨[],[(10,⟨[(1,.i),(5,.c xs)],[]⟩,[(0,⟨[(5,.c xs)],[]⟩)])]⟩
def AgO:Sig:=.of [J3,J3] [J8] (fun a=>Ui N a.1 a.2)
def AlS:Jy 127 (AgO N):=J5 (J4 [(54,yH N)] Aq7) Asf f127 N (Jw ⟨Aa6 N,trivial⟩)
def Vl:Sig:=.of [J3,Sq6] [J8,J3] (fun a=>Lh N a.1 a.2)
def TY:Jy 65 (Vl N):=J5 (J4 [(74,ZW N)] []) A56 f65 N (Jw ⟨ZX N,trivial⟩)
def fD:Sig:=.of [J8] [RP,J3] (YA N)
def dJ:Jy 28 (fD N):=J5 (J4 [(73,ZT N)] []) A56 f28 N (Jw ⟨ZU N,trivial⟩)
open Go.Proofs Go.Proofs.Tryz
def vP:Sig:=.of [oG,J8] [J8] (fun a=>Qy N a.1 a.2)
def Aer:Jy 29 (vP N):=J5 (J4 [(23,MH N),(31,LD N),(8,jU N)] []) A56 f29 N (Jw ⟨LU N,La N,qH N,trivial⟩)
open Go.Proofs Go.Proofs.Tryz
def Alz:A55:=[A53 3 [5,9],A53 46 [0,5,8,9,10,52,53,54]]
def An1:Lk:=⟨[],[(46,⟨[(0,.c AL),(5,.c AQ),(8,.i),(9,.c xs),(10,.i),(52,.i),(53,.i),(54,.c x64)],[(0,.box Bz),(A4R,.box BG)]⟩,[(0,⟨[(5,.c AQ),(9,.c xs)],[(0,.box Bz),(A4R,.box BG)]⟩)])]⟩
def cO (N n:Nat):Sig:=.of [oG,.cell false .str] [.cell false .str] (fun a=>X7 N n a.1 a.2)
def l7 (N:Nat): ∀ n,Spec Tryz.prog 9 (cO N n)
 | 0=>wU (C:=ctx Tryz.prog [] []) (fn:=f9) (Jw (gs:=[]) trivial)
 | n+1=>XJ (C:=ctx Tryz.prog ((9,cO N n)::[(28,fD N),(29,vP N),(30,AeD N),(23,MH N),(31,LD N)]) Alz) (L:=An1) (fn:=f9) (N:=N) (Jw ⟨l7 N n,⟨dJ N,Aer N,Aka N,LU N,La N,trivial⟩⟩)
def Acw:Sig:=cO N N
def Ah7 (N:Nat):Spec Tryz.prog 9 (Acw N):=l7 N N
open Go.Proofs Go.Proofs.Tryz
def jR:Sig:=.of [J3] [J3] (Vj N)
def qA:Jy 220 (jR N):=J5 (J4 [] []) A56 f220 N (Jw trivial)
def AhN:A55:=[A53 3 [0,4],A53 11 [5],A53 18 [0,4],A53 38 [0,5,34,35]]
def AjU:Lk:=⟨[],[(18,⟨[(0,.i),(4,.c x64)],[]⟩,[(0,⟨[(0,.i),(4,.c x64)],[]⟩)]),(38,⟨[(0,.i),(5,.c (xo 38912)),(34,.i),(35,.c x64)],[(38912,.arr 5 false Ar)]⟩,[(2,⟨[(5,.c (xo 38912))],[(38912,.arr 5 false Ar)]⟩)])]⟩
def ZO:Sig:=.of [J3] [J8,J3] (Ot N)
def iP:Jy 167 (ZO N):=J5 (J4 [] AhN) AjU f167 N (Jw trivial)
def Yf:Sig:=.of [.box [(false,.bool)]] [JY] (NL N)
def Vr:Jy 49 (Yf N):=J5 (J4 [] []) A56 f49 N (Jw trivial)
def Uo:Sig:=.of [Xb] [RP,J3] (MP N)
def Vq:Jy 77 (Uo N):=J5 (J4 [] []) A56 f77 N (Jw trivial)
def Al9:A55:=[(3,⟨[3],[([3],3,Aw,A4T)],[],[(A4K,A4T)],[]⟩),A53 7 [0,3,4],A53 11 [],(14,⟨[0,3,4],[([3],3,Aw,A4K)],[],[(42240,A4K)],[]⟩),(30,⟨[0,3,4,5],[([3],3,Aw,A4L)],[],[(A4K,A4L)],[]⟩)]
def An7:Lk:=⟨[],[(14,⟨[(0,.i),(3,.c (xo A4K)),(4,.c x64)],[(A4K,.arr 3 false Aw)]⟩,[(0,⟨[(3,.c (xo A4T))],[(A4T,.arr 3 false Aw)]⟩)]),(30,⟨[(0,.i),(3,.c (xo A4L)),(4,.c x64),(5,.c x64)],[(A4L,.arr 3 false Aw)]⟩,[(1,⟨[(0,.i),(3,.c (xo 42240)),(4,.c x64)],[(42240,.arr 3 false Aw)]⟩),(2,⟨[],[]⟩)])]⟩
def Ac1:Sig:=.of [J8] [AoG] (eY N)
def AhE:Jy 203 (Ac1 N):=J5 (J4 [] Al9) An7 f203 N (Jw trivial)
def NQ:Sig:=.of [Xb] [J3] (Mc N)
def NJ:Jy 37 (NQ N):=J5 (J4 [] []) A56 f37 N (Jw trivial)
def AjT:A55:=[A53 3 [4],A53 30 [0,4,42,43]]
def AlF:Lk:=⟨[],[(30,⟨[(0,.i),(4,.c x64),(42,.i),(43,.c x64)],[]⟩,[(0,⟨[(4,.c x64)],[]⟩)])]⟩
def dG:Sig:=.of [J8] [J3,J3] (PZ N)
def lG:Jy 140 (dG N):=J5 (J4 [] AjT [] [] [] [8,12,16,20,21,25,29,30,31,32]) AlF f140 N (Jw trivial)
def Aim:A55:=[A53 3 [],A53 10 [0,3]]
def Akq:Lk:=⟨[],[(10,⟨[(0,.i),(3,.c x64)],[]⟩,[(0,⟨[],[]⟩)])]⟩
def wV:Sig:=.of [.cell false (.sl 71 Tq5)] [JY] (Yb N)
def Afq:Jy 192 (wV N):=J5 (J4 [] Aim) Akq f192 N (Jw trivial)
open Go.Proofs Go.Proofs.Tryz
def Acu:Sig:=.of [J8] [J8,J8] (eH N)
def Ah0:Jy 287 (Acu N):=J5 (J4 [] []) A56 f287 N (Jw trivial)
def Ajr:Sig:=.of [J8,J3] [JY] (fun a=>bV N a.1 a.2)
def Anr:Jy 288 (Ajr N):=J5 (J4 [] []) A56 f288 N (Jw trivial)
def Aaj:Sig:=.of [J8] [JY] (VM N)
def AfW:Jy 254 (Aaj N):=J5 (J4 [] []) A56 f254 N (Jw trivial)
def AqU:A55:=[(3,⟨[3],[([3],5,Ar,A4O)],[],[(A4K,A4O)],[]⟩),(18,⟨[3,4,8,9,10],[([3],5,Ar,A4K)],[],[(41472,A4K)],[]⟩),(45,⟨[3,4,6,8,9,10],[([3],5,Ar,A4L)],[],[(38400,A4L),(A4K,A4L)],[]⟩),(53,⟨[3,4,6,8,9,10],[([3],5,Ar,A4M)],[],[(A4L,A4M)],[]⟩)]
def Asu:Lk:=⟨[(45,⟨[(3,.c (xo A4L)),(4,.c xb),(6,.i),(8,.c (xo A4Y)),(9,.i),(10,.i)],[(A4Y,.arr 5 false Ar),(A4L,.arr 5 false Ar)]⟩),(53,⟨[(3,.c (xo A4M)),(4,.i),(6,.c x8),(8,.c (xo A4Y)),(9,.i),(10,.i)],[(A4Y,.arr 5 false Ar),(A4M,.arr 5 false Ar)]⟩)],[(18,⟨[(3,.c (xo A4K)),(4,.c xb),(8,.c (xo A4Y)),(9,.i),(10,.c x64)],[(A4Y,.arr 5 false Ar),(A4K,.arr 5 false Ar)]⟩,[(0,⟨[(3,.c (xo A4O))],[(A4O,.arr 5 false Ar)]⟩)])]⟩
def AgU:Sig:=.of [J8] [J8] (jC N)
def Amd:Jy 325 (AgU N):=J5 (J4 [] AqU) Asu f325 N (Jw trivial)
def Ad2:Sig:=.of [J3] [J3] (TN N)
def Ad3:Jy 20 (Ad2 N):=J5 (J4 [] []) A56 f20 N (Jw trivial)
def zN:Sig:=.of [Sq3] [JY] (YX N)
def AfN:Jy 154 (zN N):=J5 (J4 [] []) A56 f154 N (Jw trivial)
def Nl:Sig:=.of [.box [(false,.bool)],J8,J3] [J8] (fun a=>Ku N a.1 a.2.1 a.2.2)
def Nh:Jy 43 (Nl N):=J5 (J4 [] []) A56 f43 N (Jw trivial)
def Asy:A55:=[A53 3 [0,1,6],A53 22 [0,1,6,21,22,23],(77,⟨[1,9],[],[],[(45568,A4M),(47616,A4M),(49664,A4M),(52480,A4M)],[]⟩)]
def AvG:Lk:=⟨[(77,⟨[(1,.i),(9,.c (xo A4M))],[(A4M,.arr 5 false Ar)]⟩)],[(22,⟨[(0,.i),(1,.i),(6,.c x64),(21,.i),(22,.i),(23,.c x64)],[]⟩,[(0,⟨[(0,.i),(1,.i),(6,.c x64)],[]⟩)])]⟩
def QM:Sig:=.of [J3,Sq6] [J8,J3] (fun a=>KD N a.1 a.2)
def Py:Jy 95 (QM N):=J5 (J4 [(158,dP N)] Asy) AvG f95 N (Jw ⟨lT N,trivial⟩)
open Go.Proofs Go.Proofs.Tryz
def AkN:A55:=[A53 3 [3],A53 14 [3,7,8,9]]
def Ang:Lk:=⟨[],[(14,⟨[(3,.c x64),(7,.c (xo 34560)),(8,.i),(9,.c x64)],[(34560,.arr 5 false Ar)]⟩,[(0,⟨[(3,.c x64)],[]⟩)])]⟩
def jM:Sig:=.of [J8] [J3] (PT N)
def pK:Jy 194 (jM N):=J5 (J4 [] AkN) Ang f194 N (Jw trivial)
def PH:Sig:=.of [Xb,J3] [RP,JY] (fun a=>Lc N a.1 a.2)
def P7:Jy 81 (PH N):=J5 (J4 [] []) A56 f81 N (Jw trivial)
def Xf:Sig:=.of [Xb] [J3] (OU N)
def Zf:Jy 143 (Xf N):=J5 (J4 [] []) A56 f143 N (Jw trivial)
def AiD:A55:=[(3,⟨[2,3],[([3],103,Aq,A4L)],[],[(A4K,A4L)],[]⟩),(14,⟨[2,3,7,8,9],[([3],103,Aq,A4K)],[],[(37120,A4K)],[]⟩)]
def AkF:Lk:=⟨[],[(14,⟨[(2,.c AB),(3,.c (xo A4K)),(7,.i),(8,.i),(9,.c x64)],[(A4N,.box BC),(A4X,.Ko 103 false Aq),(A4K,.arr 103 false Aq)]⟩,[(0,⟨[(2,.c AB),(3,.c (xo A4L))],[(A4N,.box BC),(A4X,.Ko 103 false Aq),(A4L,.arr 103 false Aq)]⟩)])]⟩
def bJ:Sig:=.of [Sq1] [Sq1] (VG N)
def kR:Jy 57 (bJ N):=J5 (J4 [] AiD) AkF f57 N (Jw trivial)
def dF:Sig:=.of [J8] [JY,J3] (TW N)
def lF:Jy 237 (dF N):=J5 (J4 [] []) A56 f237 N (Jw trivial)
def rE:Sig:=.of [J8,J3] [JY] (fun a=>UE N a.1 a.2)
def wE:Jy 149 (rE N):=J5 (J4 [] []) A56 f149 N (Jw trivial)
def AjV:Sig:=.of [J8,J3] [JY] (fun a=>dH N a.1 a.2)
def AnE:Jy 277 (AjV N):=J5 (J4 [] []) A56 f277 N (Jw trivial)
def Aeb:Sig:=.of [] [Ayp] (fun _=>Ajk N)
def Ajl:Jy 261 (Aeb N):=J5 (J4 [] []) A56 f261 N (Jw trivial)
open Go.Proofs Go.Proofs.Tryz
def Ae6:A55:=[A53 3 [0,3],(11,⟨[5],[([5],5,Ar,A4O)],[],[(A4M,A4O)],[]⟩),A53 14 [0,3,4],(34,⟨[0,3,5,18,19],[([5],5,Ar,A4M)],[],[(41216,A4M)],[]⟩)]
def Agb:Lk:=⟨[],[(14,⟨[(0,.i),(3,.c x64),(4,.c x64)],[]⟩,[(0,⟨[(0,.i),(3,.c x64)],[]⟩)]),(34,⟨[(0,.i),(3,.i),(5,.c (xo A4M)),(18,.i),(19,.c x64)],[(A4M,.arr 5 false Ar)]⟩,[(2,⟨[(5,.c (xo A4O))],[(A4O,.arr 5 false Ar)]⟩)])]⟩
def Xo:Sig:=.of [J3] [J8] (Ob N)
def ZP:Jy 91 (Xo N):=J5 (J4 [] Ae6) Agb f91 N (Jw trivial)
def AiL:Sig:=.of [J3] [J3] (Qv N)
def AdE:Jy 217 (AiL N):=J5 (J4 [] []) A56 f217 N (Jw trivial)
def Agw:Sig:=.of [J3] [JY] (gU N)
def AkM:Jy 218 (Agw N):=J5 (J4 [] []) A56 f218 N (Jw trivial)
def Ar1:A55:=[(3,⟨[0,1,7],[],[],[(0,A4L),(A4K,A4L)],[]⟩),A53 11 [0],(14,⟨[0,1,2,7,8],[],[],[(0,A4K),(37632,A4K)],[]⟩),A53 30 [0,1,7,9]]
def Aub:Lk:=⟨[],[(14,⟨[(0,.c (xo A4K)),(1,.i),(2,.i),(7,.i),(8,.c x64)],[(A4K,.arr 5 false Ar)]⟩,[(0,⟨[(0,.c (xo A4L)),(1,.i),(7,.i)],[(A4L,.arr 5 false Ar)]⟩)]),(30,⟨[(0,.c (xo A4L)),(1,.c x64),(7,.i),(9,.c x64)],[(A4L,.arr 5 false Ar)]⟩,[(2,⟨[(0,.c (xo A4L))],[(A4L,.arr 5 false Ar)]⟩)])]⟩
def AiN:Sig:=.of [Sq8,J3,J3] [Sq8] (fun a=>Ye N a.1 a.2.1 a.2.2)
def Anh:Jy 99 (AiN N):=J5 (J4 [] Ar1) Aub f99 N (Jw trivial)
def Apu:A55:=[A53 3 [3],A53 14 [3,9,10,11]]
def Ar7:Lk:=⟨[],[(14,⟨[(3,.c (xo A4Y)),(9,.i),(10,.i),(11,.c x64)],[(A4Y,.mp Au Aw)]⟩,[(0,⟨[(3,.c (xo A4Y))],[(A4Y,.mp Au Aw)]⟩)])]⟩
def Ag0:Sig:=.of [.cell false (.sl 147 Tq4)] [Sq9] (vC N)
def Alc:Jy 162 (Ag0 N):=J5 (J4 [] Apu) Ar7 f162 N (Jw trivial)
def AgX:Sig:=.of [J3] [J3] (Afr N)
def Ami:Jy 234 (AgX N):=J5 (J4 [] []) A56 f234 N (Jw trivial)
def Avd:A55:=[A53 3 [0,1,5],A53 10 [0,1,5],(11,⟨[0,1],[],[],[(0,A4O),(A4M,A4O)],[]⟩),(22,⟨[0,1,6],[],[],[(0,A4M),(40704,A4M)],[]⟩)]
def Ax4:Lk:=⟨[],[(10,⟨[(0,.c (xo 0)),(1,.i),(5,.c x64)],[(0,.arr 5 true Ar)]⟩,[(0,⟨[(0,.c (xo 0)),(1,.i),(5,.c x64)],[(0,.arr 5 true Ar)]⟩)]),(22,⟨[(0,.c (xo A4M)),(1,.i),(6,.c x64)],[(A4M,.arr 5 true Ar)]⟩,[(2,⟨[(0,.c (xo A4O)),(1,.i)],[(A4O,.arr 5 true Ar)]⟩)])]⟩
def AmJ:Sig:=.of [A21,J3] [A21] (fun a=>Aaz N a.1 a.2)
def Aqf:Jy 157 (AmJ N):=J5 (J4 [] Avd) Ax4 f157 N (Jw trivial)
def Xn:Sig:=.of [JY] [J8] (SV N)
def ZN:Jy 165 (Xn N):=J5 (J4 [] []) A56 f165 N (Jw trivial)
open Go.Proofs Go.Proofs.Tryz
def AdI (N n:Nat):Sig:=.of [.cell false (.int .i64)] [.cell false (.int .i64)] (Aaa N n)
def AiP (N:Nat):AaP Tryz.prog (AdI N):=AsI (J7:=[.cell false (.int .i64)]) (JP:=[.cell false (.int .i64)]) (l:=[(217,fun a=>Qv N a)]) ⟨AdE N,trivial⟩
def jL:Sig:=.of [J3,J3] [J3] (fun a=>QQ N a.1 a.2)
def pJ:Jy 161 (jL N):=J5 (J4 [(218,Agw N)] []) A56 f161 N (Jw ⟨AkM N,trivial⟩)
def Asx:A55:=[A53 3 [0,2,5,6,7,8,9],A53 74 [0,2,5,6,7,8,9,50,51,52],A53 101 [0,2,5,6,7,8]]
def AvF:Lk:=⟨[(101,⟨[(0,.i),(2,.c AB),(5,.c AQ),(6,.i),(7,.c x64),(8,.c x64)],[(A4N,.box BB),(A4R,.box BB)]⟩)],[(74,⟨[(0,.i),(2,.c AB),(5,.c AQ),(6,.i),(7,.c x64),(8,.i),(9,.i),(50,.c (xo 45568)),(51,.i),(52,.c x64)],[(A4N,.box BB),(A4R,.box BB),(45568,.arr 5 false Ar)]⟩,[(0,⟨[(0,.i),(2,.c AB),(5,.c AQ),(6,.i),(7,.c x64),(8,.i),(9,.i)],[(A4N,.box BB),(A4R,.box BB)]⟩)])]⟩
def o5:Sig:=.of [J8] [RP,J8,J3] (Yv N)
def kM:Jy 191 (o5 N):=J5 (J4 [(234,AgX N)] Asx) AvF f191 N (Jw ⟨Ami N,trivial⟩)
def NS:Sig:=.of [Xb,J3] [RP,J3] (fun a=>L8 N a.1 a.2)
def NK:Jy 33 (NS N):=J5 (J4 [(77,Uo N)] []) A56 f33 N (Jw ⟨Vq N,trivial⟩)
def An5:A55:=[(3,⟨[7],[([7],9,Au,A4L)],[],[(A4K,A4L)],[]⟩),(34,⟨[7,36,37,38],[([7],9,Au,A4K)],[],[(45056,A4K)],[]⟩)]
def Aqb:Lk:=⟨[],[(34,⟨[(7,.c (xo A4K)),(36,.c (xo 41728)),(37,.i),(38,.c x64)],[(41728,.arr 3 false Aw),(A4K,.arr 9 false Au)]⟩,[(0,⟨[(7,.c (xo A4L))],[(A4L,.arr 9 false Au)]⟩)])]⟩
def ZC:Sig:=.of [J8] [J8,J3] (SS N)
def ZE:Jy 148 (ZC N):=J5 (J4 [(203,Ac1 N),(204,AaL N),(158,dP N)] An5) Aqb f148 N (Jw ⟨AhE N,Agn N,lT N,trivial⟩)
def AdF:Sig:=.of [J3,J8] [Sq7] (fun a=>mM N a.1 a.2)
def AiM:Jy 196 (AdF N):=J5 (J4 [(194,jM N)] []) A56 f196 N (Jw ⟨pK N,trivial⟩)
def AdH:A55:=[A53 29 [8,9]]
def AfS:Lk:=⟨[(29,⟨[(8,.i),(9,.c x64)],[(0,.box [Bi])]⟩)],[]⟩
def kT:Sig:=.of [Xb,J3] [JY,J3] (fun a=>Nq N a.1 a.2)
def Abe:Jy 239 (kT N):=J5 (J4 [(81,PH N),(237,dF N)] AdH) AfS f239 N (Jw ⟨P7 N,lF N,trivial⟩)
def yE:Sig:=.of [J8] [J8,J3,J3] (iO N)
def Aa4:Jy 85 (yE N):=J5 (J4 [(149,rE N)] []) A56 f85 N (Jw ⟨wE N,trivial⟩)
open Go.Proofs Go.Proofs.Tryz
def Avb:A55:=[A53 3 [3],A53 22 [0,3,4]]
def Ax3:Lk:=⟨[],[(22,⟨[(0,.i),(3,.c x64),(4,.c x64)],[]⟩,[(0,⟨[(3,.c x64)],[]⟩)])]⟩
def AmI:Sig:=.of [J8] [J3] (Aay N)
def Aqe:Jy 211 (AmI N):=J5 (J4 [] Avb [] [] [] [7,11,12,16,20,21]) Ax3 f211 N (Jw trivial)
def AjJ:Sig:=.of [J3,J3] [JY] (fun a=>AbC N a.1 a.2)
def An8:Jy 212 (AjJ N):=J5 (J4 [] []) A56 f212 N (Jw trivial)
def AcI:Sig:=.of [.cell false (.int .u8)] [JY] (AgV N)
def Aik:Jy 246 (AcI N):=J5 (J4 [] [] [] [] [] [5,8,9,12,15,16,17,20,23,24]) A56 f246 N (Jw trivial)
def Amf:Sig:=.of [.cell false (.int .u8)] [JY] (Uc N)
def Agp:Jy 248 (Amf N):=J5 (J4 [] []) A56 f248 N (Jw trivial)
def Aba:Sig:=.of [J3,J3,J3] [JY] (fun a=>PG N a.1 a.2.1 a.2.2)
def Acp:Jy 87 (Aba N):=J5 (J4 [] []) A56 f87 N (Jw trivial)
def Ajh:Sig:=.of [J3] [J3] (Abq N)
def Ann:Jy 206 (Ajh N):=J5 (J4 [] []) A56 f206 N (Jw trivial)
def jT:Sig:=.of [.cell false (.int .u8)] [JY] (Tq N)
def qF:Jy 322 (jT N):=J5 (J4 [] [] [] [] [] [5,8,9,12,15,16]) A56 f322 N (Jw trivial)
def qE:Sig:=.of [.cell false (.int .u8)] [JY] (SN N)
def vH:Jy 323 (qE N):=J5 (J4 [] []) A56 f323 N (Jw trivial)
open Go.Proofs Go.Proofs.Tryz
def ArW:A55:=[(3,⟨[4],[([4],3,Aw,A4L)],[],[(A4K,A4L)],[]⟩),(26,⟨[4,18,19,20],[([4],3,Aw,A4K)],[],[(40704,A4K)],[]⟩)]
def Avc:Lk:=⟨[],[(26,⟨[(4,.c (xo A4K)),(18,.i),(19,.i),(20,.c x64)],[(A4K,.arr 3 false Aw)]⟩,[(0,⟨[(4,.c (xo A4L))],[(A4L,.arr 3 false Aw)]⟩)])]⟩
def AbB:Sig:=.of [J8] [Sq0] (qU N)
def Ac0:Jy 156 (AbB N):=J5 (J4 [(210,VB N),(211,AmI N),(212,AjJ N)] ArW) Avc f156 N (Jw ⟨jB N,Aqe N,An8 N,trivial⟩)
def Ame:Sig:=.of [.cell false (.int .u8)] [JY] (Ub N)
def Ago:Jy 245 (Ame N):=J5 (J4 [(246,AcI N),(247,Vy N)] []) A56 f245 N (Jw ⟨Aik N,XK N,trivial⟩)
def Anu:A55:=[A53 3 [],A53 18 [27,28,29]]
def ApA:Lk:=⟨[],[(18,⟨[(27,.c (xo 39680)),(28,.i),(29,.c x64)],[(39680,.arr 5 false Ar)]⟩,[(0,⟨[],[]⟩)])]⟩
def Aeh:Sig:=.of [J8] [JY] (mX N)
def Ajs:Jy 319 (Aeh N):=J5 (J4 [(322,jT N),(323,qE N)] Anu [] [] [] [8,12,13,17,18,25]) ApA f319 N (Jw ⟨qF N,vH N,trivial⟩)
def Anw:A55:=[A53 3 [],A53 18 [32,33,34]]
def ApB:Lk:=⟨[],[(18,⟨[(32,.c (xo 40960)),(33,.i),(34,.c x64)],[(40960,.arr 5 false Ar)]⟩,[(0,⟨[],[]⟩)])]⟩
def Aei:Sig:=.of [J8] [JY] (Zp N)
def Ajt:Jy 284 (Aei N):=J5 (J4 [(286,Wq N),(322,jT N),(323,qE N),(247,Vy N)] Anw [] [] [] [9,13,14,18,19,26,27,30]) ApB f284 N (Jw ⟨YJ N,qF N,vH N,XK N,trivial⟩)
def Anq:A55:=[A53 3 [],A53 26 [3,4,5,6]]
def Ap9:Lk:=⟨[],[(26,⟨[(3,.i),(4,.i),(5,.c xb),(6,.c x64)],[]⟩,[(0,⟨[],[]⟩)])]⟩
def Aeg:Sig:=.of [J8] [JY] (Zo N)
def Ajq:Jy 253 (Aeg N):=J5 (J4 [(287,Acu N),(288,Ajr N)] Anq [] [] [] [32,34,35,38,42,43]) Ap9 f253 N (Jw ⟨Ah0 N,Anr N,trivial⟩)
def Afo:Sig:=.of [J8,J8] [JY] (fun a=>aQ N a.1 a.2)
def Akm:Jy 289 (Afo N):=J5 (J4 [(325,AgU N)] []) A56 f289 N (Jw ⟨Amd N,trivial⟩)
def Ad8:Sig:=.of [J3] [JY] (mG N)
def AiI:Jy 153 (Ad8 N):=J5 (J4 [(20,Ad2 N)] []) A56 f153 N (Jw ⟨Ad3 N,trivial⟩)
def LX:Sig:=.of [.box [(false,.bool)],J3,Sq6] [J8] (fun a=>JU N a.1 a.2.1 a.2.2)
def LH:Jy 46 (LX N):=J5 (J4 [(95,QM N),(43,Nl N)] []) A56 f46 N (Jw ⟨Py N,Nh N,trivial⟩)
open Go.Proofs Go.Proofs.Tryz
def yC:Sig:=.of [J8] [JY] (Uh N)
def Aax:Jy 163 (yC N):=J5 (J4 [(156,AbB N)] []) A56 f163 N (Jw ⟨Ac0 N,trivial⟩)
def Am1 (N n:Nat):Sig:=.of [.cell false (.int .u8)] [.cell false .bool] (Afz N n)
def Aug (N:Nat):AaP Tryz.prog (Am1 N):=AsI (J7:=[.cell false (.int .u8)]) (JP:=[.cell false .bool]) (l:=[(245,fun a=>Ub N a),(248,fun a=>Uc N a)]) ⟨Ago N,Agp N,trivial⟩
def ArG:A55:=[A53 3 [],A53 18 [9,10,11]]
def Au0:Lk:=⟨[],[(18,⟨[(9,.i),(10,.i),(11,.c x64)],[]⟩,[(0,⟨[],[]⟩)])]⟩
def Zn:Sig:=.of [J8] [JY] (Qx N)
def XT:Jy 281 (Zn N):=J5 (J4 [(210,VB N),(319,Aeh N)] ArG) Au0 f281 N (Jw ⟨jB N,Ajs N,trivial⟩)
def Apj:A55:=[A53 3 [],A53 10 [3,7,8,9]]
def Ar3:Lk:=⟨[],[(10,⟨[(3,.c AO),(7,.i),(8,.i),(9,.c x64)],[(A4P,.box [xs,x64,xs])]⟩,[(0,⟨[],[]⟩)])]⟩
def Agx:Sig:=.of [.cell false (.sl 102 Tq0),Sq5] [JY] (fun a=>Y2 N a.1 a.2)
def AkV:Jy 255 (Agx N):=J5 (J4 [(289,Afo N)] Apj) Ar3 f255 N (Jw ⟨Akm N,trivial⟩)
def Oy:Sig:=.of [.box [(false,.bool)],Sq6] [J8] (fun a=>KG N a.1 a.2)
def Og:Jy 40 (Oy N):=J5 (J4 [(46,LX N)] []) A56 f40 N (Jw ⟨LH N,trivial⟩)
def Ur:Sig:=.of [.box [(false,.bool)],J3] [J8] (fun a=>PI N a.1 a.2)
def Vs:Jy 41 (Ur N):=J5 (J4 [(91,Xo N),(46,LX N)] []) A56 f41 N (Jw ⟨ZP N,LH N,trivial⟩)
def jK:Sig:=.of [J3] [J3] (Tn N)
def pI:Jy 160 (jK N):=J5 (J4 [] [] [] [(7,AdI N),(12,AdI N)]) A56 f160 N (Jw trivial trivial ⟨AiP N,AiP N,trivial⟩)
def YL:Sig:=.of [J8] [RP,J3] (YK N)
def Ws:Jy 138 (YL N):=J5 (J4 [(191,o5 N)] []) A56 f138 N (Jw ⟨kM N,trivial⟩)
open Go.Proofs Go.Proofs.Tryz
def eX:Sig:=.of [J3] [J8] (iG N)
def dA:Jy 172 (eX N):=J5 (J4 [] []) A56 f172 N (Jw trivial)
def AgF:Sig:=.of [J3] [J8] (AmD N)
def Al4:Jy 177 (AgF N):=J5 (J4 [] []) A56 f177 N (Jw trivial)
def AbE:Sig:=.of [J3] [J8] (Aa3 N)
def yD:Jy 225 (AbE N):=J5 (J4 [] []) A56 f225 N (Jw trivial)
def AhK:Sig:=.of [J3] [J8] (Aa2 N)
def AgI:Jy 226 (AhK N):=J5 (J4 [] []) A56 f226 N (Jw trivial)
def ArZ:A55:=[A53 3 [3],A53 14 [3,10,11,12]]
def Avk:Lk:=⟨[],[(14,⟨[(3,.c (xo 35072)),(10,.i),(11,.i),(12,.c x64)],[(35072,.arr 5 false Ar)]⟩,[(0,⟨[(3,.c (xo 35072))],[(35072,.arr 5 false Ar)]⟩)])]⟩
def AbF:Sig:=.of [Sq6] [J8] (qW N)
def Ac3:Jy 224 (AbF N):=J5 (J4 [] ArZ [] [] [20]) Avk f224 N (Jw trivial)
def ZH:Sig:=.of [J8,J3] [J3] (fun a=>Sv N a.1 a.2)
def iK:Jy 173 (ZH N):=J5 (J4 [] []) A56 f173 N (Jw trivial)
def aV:Sig:=.of [A44] [J8] (lD N)
def yB:Jy 119 (aV N):=J5 (J4 [] []) A56 f119 N (Jw trivial)
def An9:A55:=[(3,⟨[4,5],[([4],3,Aw,A4L)],[],[(A4K,A4L)],[]⟩),(26,⟨[4,5,14,15,16],[([4],3,Aw,A4K)],[],[(40448,A4K)],[]⟩)]
def Aqk:Lk:=⟨[],[(26,⟨[(4,.c (xo A4K)),(5,.c x64),(14,.c (xo 36352)),(15,.i),(16,.c x64)],[(36352,.arr 5 false Ar),(A4K,.arr 3 false Aw)]⟩,[(0,⟨[(4,.c (xo A4L)),(5,.c x64)],[(A4L,.arr 3 false Aw)]⟩)])]⟩
def qV:Sig:=.of [J8] [AoG,J3] (UD N)
def vU:Jy 174 (qV N):=J5 (J4 [] An9) Aqk f174 N (Jw trivial)
open Go.Proofs Go.Proofs.Tryz
def AcP:A55:=[A53 3 [2,4,5],A53 11 [2,4,5],A53 14 [1,2,4,5,6],A53 19 [2,4,11],A53 27 [4,11],A53 30 [2,4,5,7],A53 62 [2,4,5,10,11,12],A53 98 [2,4,11,204]]
def Aed:Lk:=⟨[],[(14,⟨[(1,.i),(2,.c (.c (.Kt A4N 0 0))),(4,.c (.c (.Kt A4Q 0 0))),(5,.c (.c (.Kt A4R 0 0))),(6,.c x64)],[(A4N,.arr 310 false Az),(A4Q,.arr 310 false Az),(A4R,.arr 213 false Az)]⟩,[(0,⟨[(2,.c (.c (.Kt A4N 0 0))),(4,.c (.c (.Kt A4Q 0 0))),(5,.c (.c (.Kt A4R 0 0)))],[(A4N,.arr 310 false Az),(A4Q,.arr 310 false Az),(A4R,.arr 213 false Az)]⟩)]),(30,⟨[(2,.c (.c (.Kt A4N 0 0))),(4,.c (.c (.Kt A4Q 0 0))),(5,.c (.c (.Kt A4R 0 0))),(7,.c x64)],[(A4N,.arr 310 false Az),(A4Q,.arr 310 false Az),(A4R,.arr 213 false Az)]⟩,[(2,⟨[(2,.c (.c (.Kt A4N 0 0))),(4,.c (.c (.Kt A4Q 0 0))),(5,.c (.c (.Kt A4R 0 0)))],[(A4N,.arr 310 false Az),(A4Q,.arr 310 false Az),(A4R,.arr 213 false Az)]⟩)]),(62,⟨[(2,.c (.c (.Kt A4N 0 0))),(4,.c (.c (.Kt A4Q 0 0))),(5,.c (.c (.Kt A4R 0 0))),(10,.c (.c (.Kt 35328 0 0))),(11,.c (.c (.Kt A5n 0 0))),(12,.c x64)],[(A4N,.arr 310 false Az),(A4Q,.arr 310 false Az),(A4R,.arr 213 false Az),(35328,.arr 213 false Az),(A5n,.arr 310 false Az)]⟩,[(4,⟨[(2,.c (.c (.Kt A4N 0 0))),(4,.c (.c (.Kt A4Q 0 0))),(11,.c (.c (.Kt A5n 0 0)))],[(A4N,.arr 310 false Az),(A4Q,.arr 310 false Az),(A5n,.arr 310 false Az)]⟩)]),(98,⟨[(2,.c (.c (.Kt A4N 0 0))),(4,.c (.c (.Kt A4Q 0 0))),(11,.c (.c (.Kt A5n 0 0))),(204,.c x64)],[(A4N,.arr 310 false Az),(A4Q,.arr 310 false Az),(A5n,.arr 310 false Az)]⟩,[(6,⟨[(4,.c (.c (.Kt A4Q 0 0))),(11,.c (.c (.Kt A5n 0 0)))],[(A4Q,.arr 310 false Az),(A5n,.arr 310 false Az)]⟩)])]⟩
def VL:Sig:=.of [Ayq,A43] [Ayq] (fun a=>Rh N a.1 a.2)
def Y6:Jy 307 (VL N):=J5 (J4 [(336,Ag5 N),(337,Acs N)] AcP) Aed f307 N (Jw ⟨Alj N,Ahx N,trivial⟩)
def QG:Sig:=.of [Akz] [J3] (MX N)
def RU:Jy 108 (QG N):=J5 (J4 [(117,RH N)] []) A56 f108 N (Jw ⟨Tu N,trivial⟩)
def Aq4:A55:=[A53 3 [3],A53 11 [3,6,9],A53 14 [3,15,16,17],(19,⟨[6],[],[(none,6,Az)],[],[]⟩),(27,⟨[12],[],[],[(51456,A5c),(A4U,A5c)],[]⟩),A53 49 [3,6,7,8],A53 62 [3,6,7,9,10],(82,⟨[3,6,11],[],[(none,6,Az)],[],[]⟩),(102,⟨[12,74,75,76],[],[],[(51456,A4U),(56576,A4U)],[]⟩)]
def Ase:Lk:=⟨[(49,⟨[(3,.i),(6,.c (xo 39168)),(7,.i),(8,.c x64)],[(39168,.arr 165 false Az)]⟩)],[(14,⟨[(3,.c xs),(15,.i),(16,.i),(17,.c x64)],[]⟩,[(0,⟨[(3,.c xs)],[]⟩)]),(62,⟨[(3,.i),(6,.c (xo 39168)),(7,.i),(9,.c (xo A5l)),(10,.c x64)],[(39168,.arr 165 false Az),(A5l,.arr 5 false Ar)]⟩,[(2,⟨[(3,.i),(6,.c (xo 39168)),(9,.c (xo A5l))],[(39168,.arr 165 false Az),(A5l,.arr 5 false Ar)]⟩)]),(82,⟨[(3,.i),(6,.c (xl Az)),(11,.c x64)],[]⟩,[(4,⟨[(6,.c (xl Az))],[]⟩)]),(102,⟨[(12,.c (xo A4U)),(74,.i),(75,.i),(76,.c x64)],[(A4U,.arr 5 false Ar)]⟩,[(6,⟨[(12,.c (xo A5c))],[(A5c,.arr 5 false Ar)]⟩)])]⟩
def AgN:Sig:=.of [Sq6] [J8] (AmO N)
def AlP:Jy 52 (AgN N):=J5 (J4 [(109,AcA N)] Aq4) Ase f52 N (Jw ⟨AhX N,trivial⟩)
def AfY:A55:=[A53 17 [0,2,3]]
def Ah5:Lk:=⟨[(17,⟨[(0,.i),(2,.c AB),(3,.c xs)],[(A4N,.box BC),(A4X,.Ko 103 false Aq)]⟩)],[]⟩
def U1:Sig:=.of [J3] [Sq1] (KN N)
def Vw:Jy 15 (U1 N):=J5 (J4 [(54,yH N)] AfY) Ah5 f15 N (Jw ⟨Aa6 N,trivial⟩)
def Aa5:Sig:=.of [J8,J3] [J8,J3] (fun a=>ZM N a.1 a.2)
def Aga:Jy 106 (Aa5 N):=J5 (J4 [(149,rE N)] []) A56 f106 N (Jw ⟨wE N,trivial⟩)
def ZI:Sig:=.of [J8,J8,J3] [J3] (fun a=>Va N a.1 a.2.1 a.2.2)
def iL:Jy 222 (ZI N):=J5 (J4 [(173,ZH N)] []) A56 f222 N (Jw ⟨iK N,trivial⟩)
def Yq:Sig:=.of [J8] [JY] (PQ N)
def aW:Jy 227 (Yq N):=J5 (J4 [(232,rP N)] []) A56 f227 N (Jw ⟨wJ N,trivial⟩)
def AeF:A55:=[A53 7 [],A53 25 [0,1,11],A53 30 [0,1,5]]
def Agf:Lk:=⟨[(25,⟨[(0,.i),(1,.i),(11,.c xb)],[]⟩)],[(30,⟨[(0,.i),(1,.i),(5,.c x64)],[]⟩,[(1,⟨[],[]⟩)])]⟩
def lJ:Sig:=.of [J3,J8] [JY] (fun a=>ZV N a.1 a.2)
def AbO:Jy 228 (lJ N):=J5 (J4 [(264,AeH N),(265,XY N),(266,jY N)] AeF [] [] [] [22,27,32,33,34,37,43,44,50,51]) Agf f228 N (Jw ⟨Akd N,Yp N,rH N,trivial⟩)
open Go.Proofs Go.Proofs.Tryz
def Aok:A55:=[A53 3 [],A53 18 [1,5]]
def AqY:Lk:=⟨[],[(18,⟨[(1,.i),(5,.c xs)],[]⟩,[(0,⟨[],[]⟩)])]⟩
def kN (N n:Nat):Sig:=.of [RP,.cell false (.int .i64)] [.cell false (.int .i64)] (fun a=>Tc N n a.1 a.2)
def sQ (N:Nat): ∀ n,Spec Tryz.prog 219 (kN N n)
 | 0=>wU (C:=ctx Tryz.prog [] []) (fn:=f219) (Jw (gs:=[]) trivial)
 | n+1=>XJ (C:=ctx Tryz.prog ((219,kN N n)::[(191,o5 N)]) Aok) (L:=AqY) (fn:=f219) (N:=N) (Jw ⟨sQ N n,⟨kM N,trivial⟩⟩)
def Afs:Sig:=kN N N
def Akr (N:Nat):Spec Tryz.prog 219 (Afs N):=sQ N N
def An6:A55:=[(3,⟨[5],[],[],[(37888,A4L),(A4K,A4L)],[]⟩),(26,⟨[5,22,23,24],[],[],[(37888,A4K),(40448,A4K)],[]⟩)]
def Aqc:Lk:=⟨[],[(26,⟨[(5,.c (xo A4K)),(22,.i),(23,.i),(24,.c x64)],[(A4K,.arr 5 true Ar)]⟩,[(0,⟨[(5,.c (xo A4L))],[(A4L,.arr 5 true Ar)]⟩)])]⟩
def ZF:Sig:=.of [J8] [J8,J3] (QH N)
def ZG:Jy 94 (ZF N):=J5 (J4 [(156,AbB N),(157,AmJ N)] An6) Aqc f94 N (Jw ⟨Ac0 N,Aqf N,trivial⟩)
def kU:Sig:=.of [.box [(false,.bool)],J3,JY] [J8] (fun a=>Qj N a.1 a.2.1 a.2.2)
def Abf:Jy 168 (kU N):=J5 (J4 [(165,Xn N),(46,LX N)] []) A56 f168 N (Jw ⟨ZN N,LH N,trivial⟩)
def Asw:A55:=[(3,⟨[4],[([4],71,Tq5,A4L)],[],[(A4K,A4L)],[]⟩),(10,⟨[0,4],[([4],71,Tq5,A4K)],[],[(38400,A4K)],[]⟩)]
def AvE:Lk:=⟨[],[(10,⟨[(0,.c xs),(4,.c (xo A4K))],[(A4K,.arr 71 false Tq5)]⟩,[(0,⟨[(4,.c (xo A4L))],[(A4L,.arr 71 false Tq5)]⟩)])]⟩
def QL:Sig:=.of [J8] [.cell false (.sl 71 Tq5),J3] (Ry N)
def Px:Jy 139 (QL N):=J5 (J4 [(191,o5 N)] Asw) AvE f139 N (Jw ⟨kM N,trivial⟩)
def oZ:Sig:=.of [Xb] [J3,J3] (YZ N)
def uN:Jy 78 (oZ N):=J5 (J4 [(33,NS N),(140,dG N)] []) A56 f78 N (Jw ⟨NK N,lG N,trivial⟩)
def AnD:A55:=[A53 3 [8],A53 46 [4,8,35,36]]
def Aqo:Lk:=⟨[],[(46,⟨[(4,.i),(8,.c x64),(35,.i),(36,.c x64)],[]⟩,[(0,⟨[(8,.c x64)],[]⟩)])]⟩
def rD:Sig:=.of [J8] [J3,J3] (QI N)
def vZ:Jy 240 (rD N):=J5 (J4 [(85,yE N),(277,AjV N)] AnD) Aqo f240 N (Jw ⟨Aa4 N,AnE N,trivial⟩)
def uO:Sig:=.of [Xb] [J8,J3] (Si N)
def Ad9:Jy 36 (uO N):=J5 (J4 [(33,NS N),(85,yE N)] []) A56 f36 N (Jw ⟨NK N,Aa4 N,trivial⟩)
def Abs:A55:=[(3,⟨[0,4],[],[(none,4,Ar)],[],[]⟩),A53 13 [0,1],(22,⟨[0,4],[],[(none,4,Ar)],[],[41728]⟩)]
def AcO:Lk:=⟨[(13,⟨[(0,.c AL),(1,.i)],[(0,.box Bo)]⟩)],[(22,⟨[(0,.c AL),(4,.c Bg)],[(0,.box Bo)]⟩,[(0,⟨[(0,.c AL),(4,.c Bg)],[(0,.box Bo)]⟩)])]⟩
def aU:Sig:=.of [Ayp,J8] [] (fun a=>TC N a.1 a.2)
def xX:Jy 262 (aU N):=J5 (J4 [(306,bU N),(307,VL N)] Abs) AcO f262 N (Jw ⟨kY N,Y6 N,trivial⟩)
open Go.Proofs Go.Proofs.Tryz
def WW:Sig:=.of [Sq5] [J8,J3] (MQ N)
def jP:Jy 96 (WW N):=J5 (J4 [(94,ZF N),(95,QM N)] []) A56 f96 N (Jw ⟨ZG N,Py N,trivial⟩)
def Vu:Sig:=.of [] [J8] (fun _=>NV N)
def X5:Jy 42 (Vu N):=J5 (J4 [(94,ZF N),(95,QM N)] []) A56 f42 N (Jw ⟨ZG N,Py N,trivial⟩)
def Pq:Sig:=.of [J8,J3] [RP,J3] (fun a=>OB N a.1 a.2)
def TP:Jy 75 (Pq N):=J5 (J4 [(138,YL N)] []) A56 f75 N (Jw ⟨Ws N,trivial⟩)
def QU (N:Nat):Alt:=.of [.cell false .str] [Xb,.cell false (.int .i64)] [.cell false .ptr,.cell false (.int .i64)] (fun a=>Om N a)
def Um (N:Nat):Spec Tryz.prog 76 (QU N).1/\Spec Tryz.prog 76 (QU N).2.1:=Wu (C:=ctx Tryz.prog [(139,QL N)] []) (L:=⟨[],[]⟩) (fn:=f76) (N:=N) (Jw ⟨Px N,trivial⟩) (by kernel_rfl) (by kernel_rfl) (fun a=>by kernel_rfl)
def VR:Sig:=.of [RP] [J3] (LJ N)
def gZ:Jy 84 (VR N):=J5 (J4 [(139,QL N),(148,ZC N)] []) A56 f84 N (Jw ⟨Px N,ZE N,trivial⟩)
def pU:A55:=[A53 85 [2,4,5,7]]
def tK:Lk:=⟨[(85,⟨[(2,.c AB),(4,.c AP),(5,.i),(7,.i)],[(A4N,.box [A8,A7,A8]),(A4Q,.box [A8,A7,A8])]⟩)],[]⟩
def WV:Sig:=.of [RP] [Sq5,J3] (Qk N)
def jO:Jy 193 (WV N):=J5 (J4 [(139,QL N),(148,ZC N)] pU) tK f193 N (Jw ⟨Px N,ZE N,trivial⟩)
def AiK:A55:=[A53 3 [1,4],A53 30 [1,4,5]]
def AkL:Lk:=⟨[],[(30,⟨[(1,.c AU),(4,.c x64),(5,.c x64)],[(A4Z,.box BH)]⟩,[(0,⟨[(1,.c AU),(4,.c x64)],[(A4Z,.box BH)]⟩)])]⟩
def zV:Sig:=.of [Sq7] [J3,J3] (Zd N)
def AfR:Jy 195 (zV N):=J5 (J4 [(161,jL N),(160,jK N)] AiK [] [] [] [9,13,14,18,19,23,24,28,29,38,42,46,47,51,52,56,57,61,62,66]) AkL f195 N (Jw ⟨pJ N,pI N,trivial⟩)
def Ahn:A55:=[A53 89 [2,4,5,6]]
def AiX:Lk:=⟨[(89,⟨[(2,.c AB),(4,.c AP),(5,.c AQ),(6,.c Bi)],[(A4N,.box [A8,AA,A8]),(A4Q,.box [A8,AA,A8]),(A4R,.box [xs,xb,A8])]⟩)],[]⟩
def uY:Sig:=.of [RP] [AoE,J3] (XP N)
def AdP:Jy 198 (uY N):=J5 (J4 [(139,QL N),(148,ZC N),(237,dF N)] Ahn) AiX f198 N (Jw ⟨Px N,ZE N,lF N,trivial⟩)
open Go.Proofs Go.Proofs.Tryz
def Aec:A55:=[(3,⟨[3,4,5],[],[],[(A5l,A4M),(A4L,A4M)],[A4M]⟩),A53 11 [3,4],A53 19 [3],A53 27 [7],(29,⟨[3,4,5],[([4],5,Ar,A4K)],[],[(41216,A4K)],[]⟩),(34,⟨[3,4,5],[],[],[(A5l,A4L),(43776,A4L)],[]⟩),(46,⟨[3,4,5,6],[],[],[(47616,A4M)],[]⟩),(58,⟨[3,4],[],[(none,4,Ar)],[],[]⟩),(78,⟨[7,68,69],[([7],5,Ar,A4U)],[],[(54528,A4U)],[]⟩)]
def AfV:Lk:=⟨[(29,⟨[(3,.c (.c (.Kt A4P 0 0))),(4,.c (xo A4K)),(5,.c x64)],[(0,.box Bo),(A4P,.arr 310 false Az),(A4K,.arr 5 false Ar)]⟩)],[(34,⟨[(3,.c (.c (.Kt A4P 0 0))),(4,.c (xo A4L)),(5,.i)],[(0,.box Bo),(A4P,.arr 310 false Az),(A4L,.arr 5 false Ar)]⟩,[(0,⟨[(3,.c (.c (.Kt A4P 0 0))),(4,.c (xo A4M)),(5,.i)],[(0,.box Bo),(A4P,.arr 310 false Az),(A4M,.arr 5 true Ar)]⟩)]),(46,⟨[(3,.c (.c (.Kt A4P 0 0))),(4,.c (xo A4M)),(5,.i),(6,.c x64)],[(0,.box Bo),(A4P,.arr 310 false Az),(A4M,.arr 5 true Ar)]⟩,[(2,⟨[(3,.c (.c (.Kt A4P 0 0))),(4,.c (xo A4M))],[(0,.box Bo),(A4P,.arr 310 false Az),(A4M,.arr 5 true Ar)]⟩)]),(58,⟨[(3,.c (.c (.Kt A4P 0 0))),(4,.c Bg)],[(0,.box Bo),(A4P,.arr 310 false Az)]⟩,[(4,⟨[(3,.c (.c (.Kt A4P 0 0)))],[(0,.box Bo),(A4P,.arr 310 false Az)]⟩)]),(78,⟨[(7,.c (xo A4U)),(68,.i),(69,.c x64)],[(0,.box Bo),(A4U,.arr 5 false Ar)]⟩,[(6,⟨[(7,.c (xo A4U))],[(0,.box Bo),(A4U,.arr 5 false Ar)]⟩)])]⟩
def kX:Sig:=.of [Ayp] [J8] (V4 N)
def Abr:Jy 263 (kX N):=J5 (J4 [(306,bU N),(307,VL N)] Aec) AfV f263 N (Jw ⟨kY N,Y6 N,trivial⟩)
def AgC:Sig:=.of [J3] [J8] (iC N)
def Al0:Jy 14 (AgC N):=J5 (J4 [(53,Akf N),(52,AgN N)] []) A56 f14 N (Jw ⟨AnY N,AlP N,trivial⟩)
def aJ:Sig:=.of [Aha] [J3] (Wn N)
def uA:Jy 110 (aJ N):=J5 (J4 [(59,QK N),(108,QG N)] []) A56 f110 N (Jw ⟨RX N,RU N,trivial⟩)
def rY:A55:=[A53 3 [],A53 10 [0,6,7,8],A53 11 [0,6,7,8],A53 46 [0,3,4,5,6,7,8]]
def tX:Lk:=⟨[],[(10,⟨[(0,.i),(6,.i),(7,.i),(8,.c x64)],[]⟩,[(0,⟨[],[]⟩)]),(46,⟨[(0,.i),(3,.i),(4,.c AP),(5,.c x64),(6,.i),(7,.i),(8,.i)],[(A4Q,.box [xs,x64,xs])]⟩,[(2,⟨[(0,.i),(6,.i),(7,.i),(8,.i)],[]⟩)])]⟩
def WY:Sig:=.of [.cell false (.sl 102 Tq0)] [J3] (Qn N)
def kG:Jy 179 (WY N):=J5 (J4 [(227,Yq N),(228,lJ N)] rY) tX f179 N (Jw ⟨aW N,AbO N,trivial⟩)
def AlX:A55:=[A53 3 [0,5],A53 11 [0,5],A53 18 [0,5],A53 38 [0,5,6]]
def AnX:Lk:=⟨[],[(18,⟨[(0,.i),(5,.c x64)],[]⟩,[(0,⟨[(0,.i),(5,.c x64)],[]⟩)]),(38,⟨[(0,.i),(5,.i),(6,.c x64)],[]⟩,[(2,⟨[(0,.i),(5,.i)],[]⟩)])]⟩
def AcC:Sig:=.of [J8] [J8,J8,JY] (AgR N)
def Aia:Jy 309 (AcC N):=J5 (J4 [(308,XD N),(265,XY N),(266,jY N)] AlX [] [] [] [24,27,28,33,34,41,42,46,47,53,64,70,71,76,82,83]) AnX f309 N (Jw ⟨WQ N,Yp N,rH N,trivial⟩)
def AeJ:Sig:=.of [J8] [JY] (AbQ N)
def Ake:Jy 269 (AeJ N):=J5 (J4 [(308,XD N)] []) A56 f269 N (Jw ⟨WQ N,trivial⟩)
def wM:Sig:=.of [J8] [JY] (kE N)
def AeN:Jy 270 (wM N):=J5 (J4 [(308,XD N),(310,kF N)] [] [] [] [] [5,9,13,14,18,19,23,24,29,30]) A56 f270 N (Jw ⟨WQ N,rX N,trivial⟩)
def lI:Sig:=.of [J8,J8] [JY] (fun a=>ZR N a.1 a.2)
def AbN:Jy 275 (lI N):=J5 (J4 [(312,AeC N)] []) A56 f275 N (Jw ⟨AjZ N,trivial⟩)
open Go.Proofs Go.Proofs.Tryz
def fF:Sig:=.of [J8] [J8] (YF N)
def dM:Jy 135 (fF N):=J5 (J4 [(189,lH N),(31,LD N)] []) A56 f135 N (Jw ⟨AbL N,La N,trivial⟩)
def VX:Sig:=.of [J3] [J8,J3] (Nk N)
def Y9:Jy 63 (VX N):=J5 (J4 [(126,Ac6 N),(127,AgO N),(74,ZW N)] []) A56 f63 N (Jw ⟨AhS N,AlS N,ZX N,trivial⟩)
def WR:Sig:=.of [J3,J3] [J8] (fun a=>LQ N a.1 a.2)
def Xt:Jy 68 (WR N):=J5 (J4 [(134,iT N),(31,LD N)] []) A56 f68 N (Jw ⟨Aa7 N,La N,trivial⟩)
def Ac5:Sig:=.of [J8] [J3] (XC N)
def AhR:Jy 274 (Ac5 N):=J5 (J4 [(28,fD N),(311,Ac9 N)] []) A56 f274 N (Jw ⟨dJ N,AhW N,trivial⟩)
def wP:Sig:=.of [J3,JY] [J8] (fun a=>Ov N a.1 a.2)
def AeU:Jy 131 (wP N):=J5 (J4 [(187,VY N),(31,LD N)] []) A56 f131 N (Jw ⟨YB N,La N,trivial⟩)
def kJ:Sig:=.of [J3,J3] [J8] (fun a=>PV N a.1 a.2)
def sG:Jy 132 (kJ N):=J5 (J4 [(188,rO N),(31,LD N)] []) A56 f132 N (Jw ⟨AcU N,La N,trivial⟩)
def AcE:Sig:=.of [J8,J3] [RP,J3] (fun a=>XG N a.1 a.2)
def Aic:Jy 70 (AcE N):=J5 (J4 [(28,fD N)] []) A56 f70 N (Jw ⟨dJ N,trivial⟩)
def ApQ:A55:=[(3,⟨[2,3],[],[],[(33637,A4O),(A4K,A4O)],[]⟩),(11,⟨[0,2,3,4,5],[([5],102,Tq0,A4M)],[],[(33637,A5d),(A4L,A4M),(A4W,A5d)],[]⟩),(14,⟨[0,2,3,4],[],[],[(33637,A4K),(44288,A4K)],[]⟩),(30,⟨[0,2,3,4,5,6],[([5],102,Tq0,A4L)],[],[(33637,A4W),(43008,A4L),(A4K,A4W)],[]⟩)]
def ArQ:Lk:=⟨[],[(14,⟨[(0,.c AL),(2,.c AB),(3,.c AO),(4,.c x64)],[(0,.box Bz),(A4N,.box BC),(A4X,.Ko 103 false Aq),(A4P,.box [(xo A4K)]),(A4K,.arr 103 false Aq)]⟩,[(0,⟨[(2,.c AB),(3,.c AO)],[(0,.box Bz),(A4N,.box BC),(A4X,.Ko 103 false Aq),(A4P,.box [(xo A4O)]),(A4O,.arr 103 false Aq)]⟩)]),(30,⟨[(0,.c AL),(2,.c AB),(3,.c AO),(4,.i),(5,.c (xo A4L)),(6,.c x64)],[(0,.box Bz),(A4N,.box BC),(A4X,.Ko 103 false Aq),(A4P,.box [(xo A4W)]),(A4L,.arr 102 false Tq0),(A4W,.arr 103 false Aq)]⟩,[(2,⟨[(0,.c AL),(2,.c AB),(3,.c AO),(4,.i),(5,.c (xo A4M))],[(0,.box Bz),(A4N,.box BC),(A4X,.Ko 103 false Aq),(A4P,.box [(xo A5d)]),(A4M,.arr 102 false Tq0),(A5d,.arr 103 false Aq)]⟩)])]⟩
def AgB:Sig:=.of [oG] [Sq1] (vO N)
def Aly:Jy 71 (AgB N):=J5 (J4 [(23,MH N),(136,qI N)] ApQ) ArQ f71 N (Jw ⟨LU N,AcQ N,trivial⟩)
open Go.Proofs Go.Proofs.Tryz
def ArF:A55:=[A53 3 [3],A53 14 [3,7,8,9]]
def Auz:Lk:=⟨[],[(14,⟨[(3,.c AV),(7,.i),(8,.i),(9,.c x64)],[(A4S,.box Bo)]⟩,[(0,⟨[(3,.c AV)],[(A4S,.box Bo)]⟩)])]⟩
def Ajm:Sig:=.of [Sq6] [J8] (Abt N)
def Ano:Jy 221 (Ajm N):=J5 (J4 [(261,Aeb N),(262,aU N),(263,kX N)] ArF) Auz f221 N (Jw ⟨Ajl N,xX N,Abr N,trivial⟩)
def AeK:A55:=[A53 3 [],A53 18 [11,12,13]]
def Agh:Lk:=⟨[],[(18,⟨[(11,.i),(12,.i),(13,.c x64)],[]⟩,[(0,⟨[],[]⟩)])]⟩
def Pj:Sig:=.of [Sq1] [J3] (Nv N)
def OZ:Jy 120 (Pj N):=J5 (J4 [(179,WY N)] AeK) Agh f120 N (Jw ⟨kG N,trivial⟩)
def rW:Sig:=.of [J8] [JY] (nK N)
def wL:Jy 268 (rW N):=J5 (J4 [(309,AcC N)] []) A56 f268 N (Jw ⟨Aia N,trivial⟩)
def AqA:A55:=[A53 3 [],A53 10 [3,7,8,9]]
def Asi:Lk:=⟨[],[(10,⟨[(3,.c AO),(7,.i),(8,.i),(9,.c x64)],[(A4P,.box [xs,x64,xs])]⟩,[(0,⟨[],[]⟩)])]⟩
def AgQ:Sig:=.of [.cell false (.sl 102 Tq0),Sq5] [JY] (fun a=>wO N a.1 a.2)
def AlW:Jy 233 (AgQ N):=J5 (J4 [(275,lI N)] AqA) Asi f233 N (Jw ⟨AbN N,trivial⟩)
def Ada:A55:=[(3,⟨[3],[([3],9,Au,A4L)],[],[(A4K,A4L)],[]⟩),(14,⟨[3,6,7,8],[([3],9,Au,A4K)],[],[(39168,A4K)],[]⟩)]
def AeP:Lk:=⟨[],[(14,⟨[(3,.c (xo A4K)),(6,.i),(7,.i),(8,.c x64)],[(A4K,.arr 9 false Au)]⟩,[(0,⟨[(3,.c (xo A4L))],[(A4L,.arr 9 false Au)]⟩)])]⟩
def iV:Sig:=.of [.cell false (.sl 102 Tq0)] [Sq6] (UL N)
def AaB:Jy 125 (iV N):=J5 (J4 [(135,fF N),(31,LD N)] Ada) AeP f125 N (Jw ⟨dM N,La N,trivial⟩)
def AeV:A55:=[A53 3 [],A53 10 [0,8,9,10]]
def Agl:Lk:=⟨[],[(10,⟨[(0,.i),(8,.i),(9,.i),(10,.c x64)],[]⟩,[(0,⟨[],[]⟩)])]⟩
def lN:Sig:=.of [.cell false (.sl 147 Tq4)] [J3] (V9 N)
def AbW:Jy 231 (lN N):=J5 (J4 [(227,Yq N),(273,AeS N),(274,Ac5 N)] AeV) Agl f231 N (Jw ⟨aW N,Akg N,AhR N,trivial⟩)
def Xp:Sig:=.of [] [J8] (fun _=>Qo N)
def ZY:Jy 69 (Xp N):=J5 (J4 [(135,fF N),(31,LD N)] []) A56 f69 N (Jw ⟨dM N,La N,trivial⟩)
def bZ:Sig:=.of [oG] [Sq2] (TU N)
def kZ:Jy 25 (bZ N):=J5 (J4 [(23,MH N),(71,AgB N)] []) A56 f25 N (Jw ⟨LU N,Aly N,trivial⟩)
open Go.Proofs Go.Proofs.Tryz
def AkJ:A55:=[A53 33 [1,6],A53 69 [1,6,7]]
def Ane:Lk:=⟨[(33,⟨[(1,.i),(6,.c x64)],[]⟩),(69,⟨[(1,.i),(6,.i),(7,.c x64)],[]⟩)],[]⟩
def jI:Sig:=.of [J3,J8] [J3,J3] (fun a=>Tm N a.1 a.2)
def pF:Jy 142 (jI N):=J5 (J4 [(194,jM N),(196,AdF N),(195,zV N)] AkJ) Ane f142 N (Jw ⟨pK N,AiM N,AfR N,trivial⟩)
def Rz (N:Nat):Alt:=.of [Xb] [Xb,.cell false (.int .i64)] [.cell false .ptr,.cell false (.int .i64)] (fun a=>Q7 N a)
def Y0 (N:Nat):Spec Tryz.prog 144 (Rz N).1/\Spec Tryz.prog 144 (Rz N).2.1:=Wu (C:=ctx Tryz.prog [(33,NS N)] [] [(76,QU N)]) (L:=⟨[],[]⟩) (fn:=f144) (N:=N) (Jw ⟨NK N,trivial⟩ ⟨Um N,trivial⟩) (by kernel_rfl) (by kernel_rfl) (fun a=>by kernel_rfl)
def jH:Sig:=.of [J8,J3] [J3,J3] (fun a=>Vh N a.1 a.2)
def oW:Jy 200 (jH N):=J5 (J4 [(75,Pq N),(140,dG N)] []) A56 f200 N (Jw ⟨TP N,lG N,trivial⟩)
def Rf:Sig:=.of [Sq6] [J8] (Nr N)
def Ql:Jy 170 (Rf N):=J5 (J4 [(221,Ajm N)] []) A56 f170 N (Jw ⟨Ano N,trivial⟩)
def Qs:Sig:=.of [.box [(false,.bool)],.box [(false,.str)],.box [(false,.str)]] [J8] (fun a=>OJ N a.1 a.2.1 a.2.2)
def Ahe:Jy 105 (Qs N):=J5 (J4 [(42,Vu N),(106,Aa5 N),(43,Nl N),(46,LX N),(40,Oy N)] []) A56 f105 N (Jw ⟨X5 N,Aga N,Nh N,LH N,Og N,trivial⟩)
def rV:Sig:=.of [J8] [JY] (dL N)
def AcY:Jy 267 (rV N):=J5 (J4 [(268,rW N),(308,XD N)] [] [] [] [] [5,8,9,13,17,18,22,23,27,28]) A56 f267 N (Jw ⟨wL N,WQ N,trivial⟩)
def Agi:A55:=[A53 3 [],A53 18 [0,1,12,13]]
def AhZ:Lk:=⟨[],[(18,⟨[(0,.i),(1,.i),(12,.i),(13,.c x64)],[]⟩,[(0,⟨[],[]⟩)])]⟩
def rZ:Sig:=.of [.cell false (.sl 102 Tq0),.cell false (.sl 102 Tq0)] [JY] (fun a=>AaC N a.1 a.2)
def Adb:Jy 190 (rZ N):=J5 (J4 [(233,AgQ N)] Agi) AhZ f190 N (Jw ⟨AlW N,trivial⟩)
def AcX:A55:=[A53 3 [5],A53 26 [5,14,15,16]]
def AeM:Lk:=⟨[],[(26,⟨[(5,.c xs),(14,.i),(15,.i),(16,.c x64)],[]⟩,[(0,⟨[(5,.c xs)],[]⟩)])]⟩
def We:Sig:=.of [Sq1] [J8,J3] (Rq N)
def YE:Jy 62 (We N):=J5 (J4 [(120,Pj N),(125,iV N),(124,Ac8 N),(31,LD N)] AcX) AeM f62 N (Jw ⟨OZ N,AaB N,AhU N,La N,trivial⟩)
end
end Go.Proofs.YtmgpaalplkkpnaaGreatDoor.Vm
