import Derived.Test.YtakmjgnpefmjhaaGreatDoorA9
import Derived.Test.YtakmjgnpefmjhaaGreatDoorA10
set_option linter.all false
namespace Go.Proofs.YtakmjgnpefmjhaaGreatDoor.Vm
noncomputable section
variable (N:Nat)
open Go.Proofs
def vT:List (Nat×Nrm):=[(3,⟨[],[],[],[],[]⟩),(18,⟨[8,9,10],[],[],[],[]⟩)]
def zC:Lk:=⟨[],[(18,⟨[(8,.i),(9,.i),(10,.c x64)],[]⟩,[(0,⟨[],[]⟩)])]⟩
def Y8:Sig:=.of [.cell false (.sl 42 Tq0)] [JM] (fun a=>QY N a)
def pF (N:Nat):Ju 4 (Y8 N):=Jw (Jv [] vT) zC Tryz.f4 N (Jt trivial)
def fU:Sig:=.of [] [Sq0] (fun _=>Xa N)
def nJ (N:Nat):Ju 15 (fU N):=Jw (Jv [] []) ⟨[],[]⟩ Tryz.f15 N (Jt trivial)
def XI:Sig:=.of [] [.cell false (.sl 100 Tq4)] (fun _=>RV N)
def Yt (N:Nat):Ju 44 (XI N):=Jw (Jv [] []) ⟨[],[]⟩ Tryz.f44 N (Jt trivial)
def Aa6:Sig:=.of [J3] [JM] (fun a=>Oo N a)
def AgN (N:Nat):Ju 73 (Aa6 N):=Jw (Jv [] []) ⟨[],[]⟩ Tryz.f73 N (Jt trivial)
def AtO:List (Nat×Nrm):=[(3,⟨[3],[],[],[],[]⟩),(22,⟨[0,3,4],[],[],[],[]⟩)]
def AvO:Lk:=⟨[],[(22,⟨[(0,.i),(3,.c x64),(4,.c x64)],[]⟩,[(0,⟨[(3,.c x64)],[]⟩)])]⟩
def Am6:Sig:=.of [J7] [J3] (fun a=>AaS N a)
def ApU (N:Nat):Ju 205 (Am6 N):=Jw (Jv [] AtO [] [] [] [7,11,12,16,20,21]) AvO Tryz.f205 N (Jt trivial)
def Aka:Sig:=.of [J3,J3] [JM] (fun a=>Acx N a.1 a.2)
def Anz (N:Nat):Ju 206 (Aka N):=Jw (Jv [] []) ⟨[],[]⟩ Tryz.f206 N (Jt trivial)
def Aj1:Sig:=.of [J3] [J3] (fun a=>Aia N a)
def Anf (N:Nat):Ju 208 (Aj1 N):=Jw (Jv [] []) ⟨[],[]⟩ Tryz.f208 N (Jt trivial)
def Ady:Sig:=.of [.cell false (.int .u8)] [JM] (fun a=>AhB N a)
def AiS (N:Nat):Ju 282 (Ady N):=Jw (Jv [] [] [] [] [] [5,8,9,12,15,16,17,20,23,24]) ⟨[],[]⟩ Tryz.f282 N (Jt trivial)
open Go.Proofs
def nS:Sig:=.of [JM] [J7] (fun a=>xM N a)
def Ac0 (N:Nat):Ju 213 (nS N):=Jw (Jv [] []) ⟨[],[]⟩ Tryz.f213 N (Jt trivial)
def Aiy:List (Nat×Nrm):=[(3,⟨[0,4],[],[],[],[]⟩),(11,⟨[5],[],[],[],[]⟩),(18,⟨[0,4],[],[],[],[]⟩),(38,⟨[0,5,34,35],[],[],[],[]⟩)]
def Akm:Lk:=⟨[],[(18,⟨[(0,.i),(4,.c x64)],[]⟩,[(0,⟨[(0,.i),(4,.c x64)],[]⟩)]),(38,⟨[(0,.i),(5,.c (xo 38912)),(34,.i),(35,.c x64)],[(38912,.arr 5 false Aw)]⟩,[(2,⟨[(5,.c (xo 38912))],[(38912,.arr 5 false Aw)]⟩)])]⟩
def dA:Sig:=.of [J3] [J7,J3] (fun a=>Tj N a)
def kU (N:Nat):Ju 176 (dA N):=Jw (Jv [] Aiy) Akm Tryz.f176 N (Jt trivial)
def AtT:List (Nat×Nrm):=[(3,⟨[0,1,5],[],[],[],[]⟩),(10,⟨[0,1,5],[],[],[],[]⟩),(11,⟨[0,1],[],[],[(0,1012288),(1008192,1012288)],[]⟩),(22,⟨[0,1,6],[],[],[(0,1008192),(40704,1008192)],[]⟩)]
def AvP:Lk:=⟨[],[(10,⟨[(0,.c (xo 0)),(1,.i),(5,.c x64)],[(0,.arr 5 true Aw)]⟩,[(0,⟨[(0,.c (xo 0)),(1,.i),(5,.c x64)],[(0,.arr 5 true Aw)]⟩)]),(22,⟨[(0,.c (xo 1008192)),(1,.i),(6,.c x64)],[(1008192,.arr 5 true Aw)]⟩,[(2,⟨[(0,.c (xo 1012288)),(1,.i)],[(1012288,.arr 5 true Aw)]⟩)])]⟩
def Am7:Sig:=.of [AzJ,J3] [AzJ] (fun a=>AlD N a.1 a.2)
def ApV (N:Nat):Ju 248 (Am7 N):=Jw (Jv [] AtT) AvP Tryz.f248 N (Jt trivial)
def lV:Sig:=.of [J3] [J3] (fun a=>jB N a)
def rY (N:Nat):Ju 223 (lV N):=Jw (Jv [] []) ⟨[],[]⟩ Tryz.f223 N (Jt trivial)
def AjR:Sig:=.of [Asv] [aK] (fun a=>Aim N a)
def Anp (N:Nat):Ju 6 (AjR N):=Jw (Jv [] []) ⟨[],[]⟩ Tryz.f6 N (Jt trivial)
def AnC:List (Nat×Nrm):=[(3,⟨[4],[([4],3,Au,1012288)],[],[(1000000,1012288)],[]⟩),(11,⟨[0,4,6,8],[([4],3,Au,1008192)],[],[(1004096,1008192)],[]⟩),(18,⟨[0,4,5,6],[([4],3,Au,1000000)],[],[(53760,1000000)],[]⟩),(58,⟨[0,4,6,7,8,9],[([4],3,Au,1004096)],[],[(1000000,1004096)],[]⟩)]
def Aqo:Lk:=⟨[],[(18,⟨[(0,.i),(4,.c (xo 1000000)),(5,.c x64),(6,.c x64)],[(1000000,.arr 3 false Au)]⟩,[(0,⟨[(4,.c (xo 1012288))],[(1012288,.arr 3 false Au)]⟩)]),(58,⟨[(0,.i),(4,.c (xo 1004096)),(6,.i),(7,.i),(8,.c x64),(9,.c x64)],[(1004096,.arr 3 false Au)]⟩,[(2,⟨[(0,.i),(4,.c (xo 1008192)),(6,.i),(8,.c x64)],[(1008192,.arr 3 false Au)]⟩)])]⟩
def uD:Sig:=.of [J7] [Asv,JM] (fun a=>XY N a)
def xR (N:Nat):Ju 80 (uD N):=Jw (Jv [] AnC [] [] [] [43,47,48,52,56,57,58,62,88,93,94,99,104,105]) Aqo Tryz.f80 N (Jt trivial)
def AnN:List (Nat×Nrm):=[(3,⟨[4],[],[],[],[]⟩),(10,⟨[1,4,8,9,10],[],[],[],[]⟩)]
def Aqs:Lk:=⟨[],[(10,⟨[(1,.i),(4,.c AP),(8,.i),(9,.i),(10,.c x64)],[(33792,.box [AA,AO,AA])]⟩,[(0,⟨[(4,.c AP)],[(33792,.box [AA,AO,AA])]⟩)])]⟩
def uJ:Sig:=.of [.cell false (.sl 42 Tq0),J7] [Asw,JM] (fun a=>TK N a.1 a.2)
def xY (N:Nat):Ju 38 (uJ N):=Jw (Jv [] AnN) Aqs Tryz.f38 N (Jt trivial)
def AfX:Sig:=.of [J3] [JM] (fun a=>Qh N a)
def Ak2 (N:Nat):Ju 46 (AfX N):=Jw (Jv [] []) ⟨[],[]⟩ Tryz.f46 N (Jt trivial)
open Go.Proofs
def An9:List (Nat×Nrm):=[(3,⟨[0,2,5,6,8],[],[],[],[]⟩),(70,⟨[0,2,5,6,8,9],[],[],[],[]⟩),(97,⟨[0,2,5,6,7],[],[],[],[]⟩)]
def Aqm:Lk:=⟨[(97,⟨[(0,.i),(2,.c AB),(5,.c AV),(6,.c x64),(7,.c x64)],[(33280,.box BH),(34048,.box BH)]⟩)],[(70,⟨[(0,.i),(2,.c AB),(5,.c AV),(6,.c x64),(8,.i),(9,.c x64)],[(33280,.box BH),(34048,.box BH)]⟩,[(0,⟨[(0,.i),(2,.c AB),(5,.c AV),(6,.c x64),(8,.i)],[(33280,.box BH),(34048,.box BH)]⟩)])]⟩
def dE:Sig:=.of [J7] [Ut,J7,J3] (fun a=>VB N a)
def dF (N:Nat):Ju 69 (dE N):=Jw (Jv [] An9) Aqm Tryz.f69 N (Jt trivial)
def AnA:List (Nat×Nrm):=[(3,⟨[0,6],[],[],[],[]⟩),(22,⟨[0,6,22,23,24],[],[],[],[]⟩),(77,⟨[6,10],[],[],[(43008,1008192),(46592,1008192),(49408,1008192),(51456,1008192)],[]⟩)]
def Aqn:Lk:=⟨[(77,⟨[(6,.i),(10,.c (xo 1008192))],[(1008192,.arr 5 false Aw)]⟩)],[(22,⟨[(0,.i),(6,.c xs),(22,.i),(23,.i),(24,.c x64)],[]⟩,[(0,⟨[(0,.i),(6,.c xs)],[]⟩)])]⟩
def uC:Sig:=.of [J3,Sq2] [J7,J3] (fun a=>dG N a.1 a.2)
def xQ (N:Nat):Ju 57 (uC N):=Jw (Jv [] AnA) Aqn Tryz.f57 N (Jt trivial)
def kV:Sig:=.of [JM] [J7] (fun a=>uA N a)
def AaZ (N:Nat):Ju 55 (kV N):=Jw (Jv [] []) ⟨[],[]⟩ Tryz.f55 N (Jt trivial)
def AdT:List (Nat×Nrm):=[(3,⟨[4],[],[],[],[]⟩),(11,⟨[4],[],[(none,4,Aw)],[],[]⟩),(18,⟨[3,4,5],[([4],5,Aw,1000000)],[],[(37632,1000000)],[]⟩),(30,⟨[4],[],[(none,4,Aw)],[],[]⟩)]
def Af8:Lk:=⟨[],[(18,⟨[(3,.i),(4,.c (xo 1000000)),(5,.c x64)],[(1000000,.arr 5 false Aw)]⟩,[(0,⟨[(4,.c (xo 1000000))],[(1000000,.arr 5 false Aw)]⟩)]),(30,⟨[(4,.c (xl Aw))],[]⟩,[(2,⟨[(4,.c (xl Aw))],[]⟩)])]⟩
def kW:Sig:=.of [J3] [J7] (fun a=>VA N a)
def Aba (N:Nat):Ju 56 (kW N):=Jw (Jv [] AdT [] [] [] [23,28,33,34,39,44,45,46]) Af8 Tryz.f56 N (Jt trivial)
def Ahb:List (Nat×Nrm):=[(3,⟨[0,4],[],[],[],[]⟩),(11,⟨[6],[],[],[],[]⟩),(22,⟨[0,4,5],[],[],[],[]⟩),(50,⟨[0,4,6,7],[],[],[],[]⟩)]
def Ai6:Lk:=⟨[],[(22,⟨[(0,.i),(4,.c x64),(5,.c x64)],[]⟩,[(0,⟨[(0,.i),(4,.c x64)],[]⟩)]),(50,⟨[(0,.i),(4,.i),(6,.c (xo 40192)),(7,.c x64)],[(40192,.arr 5 false Aw)]⟩,[(2,⟨[(6,.c (xo 40192))],[(40192,.arr 5 false Aw)]⟩)])]⟩
def uB:Sig:=.of [J3] [J7,J3] (fun a=>XX N a)
def AdS (N:Nat):Ju 58 (uB N):=Jw (Jv [] Ahb) Ai6 Tryz.f58 N (Jt trivial)
def AlL:List (Nat×Nrm):=[(3,⟨[3],[([3],9,Aq,1012288)],[],[(1000000,1012288)],[]⟩),(11,⟨[3,5,6,10,11,12],[([3],9,Aq,1008192)],[],[(1004096,1008192)],[1008192]⟩),(14,⟨[3,10,11,12],[([3],9,Aq,1000000)],[],[(43008,1000000)],[]⟩),(19,⟨[7],[],[],[],[]⟩),(26,⟨[3,5,6,10,11,12],[([3],9,Aq,1004096)],[],[(1000000,1004096)],[]⟩),(50,⟨[7,42,43,44],[],[],[],[]⟩)]
def An8:Lk:=⟨[],[(14,⟨[(3,.c (xo 1000000)),(10,.i),(11,.i),(12,.c x64)],[(1000000,.arr 9 false Aq)]⟩,[(0,⟨[(3,.c (xo 1012288))],[(1012288,.arr 9 false Aq)]⟩)]),(26,⟨[(3,.c (xo 1004096)),(5,.i),(6,.c x64),(10,.i),(11,.i),(12,.i)],[(1004096,.arr 9 false Aq)]⟩,[(2,⟨[(3,.c (xo 1008192)),(5,.i),(6,.c x64),(10,.i),(11,.i),(12,.i)],[(1008192,.arr 9 true Aq)]⟩)]),(50,⟨[(7,.c xs),(42,.c (xo 1012288)),(43,.i),(44,.c x64)],[(1012288,.arr 9 false Aq)]⟩,[(4,⟨[(7,.c xs)],[]⟩)])]⟩
def Adk:Sig:=.of [Sq2] [J7] (fun a=>jJ N a)
def Ai5 (N:Nat):Ju 202 (Adk N):=Jw (Jv [] AlL) An8 Tryz.f202 N (Jt trivial)
def La:Sig:=.of [aK,J3] [J3] (fun a=>JB N a.1 a.2)
def KW (N:Nat):Ju 9 (La N):=Jw (Jv [] []) ⟨[],[]⟩ Tryz.f9 N (Jt trivial)
def uK:Sig:=.of [] [A1h] (fun _=>dN N)
def xZ (N:Nat):Ju 26 (uK N):=Jw (Jv [] []) ⟨[],[]⟩ Tryz.f26 N (Jt trivial)
open Go.Proofs
def lZ:Sig:=.of [J3] [J7] (fun a=>Wl N a)
def sQ (N:Nat):Ju 65 (lZ N):=Jw (Jv [] []) ⟨[],[]⟩ Tryz.f65 N (Jt trivial)
def tZ (N n:Nat):Sig:=.of [.cell false (.int .i64)] [.cell false .str] (fun a=>Rt N n a)
def xO (N:Nat): ∀ n,Spec Tryz.prog 146 (tZ N n)
 | 0=>y9 (C:=ctx Tryz.prog [] []) (fn:=Tryz.f146) (Jt (gs:=[]) trivial) (by kernel_rfl) (by kernel_rfl)
 | n+1=>OG (C:=ctx Tryz.prog ((146,tZ N n)::[]) []) (L:=⟨[],[]⟩) (fn:=Tryz.f146) (N:=N) (Jt ⟨xO N n,trivial⟩)
def zJ:Sig:=tZ N N
def AaX (N:Nat):Spec Tryz.prog 146 (zJ N):=xO N N
def RY:Sig:=.of [fK,J3] [Ut,JM] (fun a=>L6 N a.1 a.2)
def SL (N:Nat):Ju 171 (RY N):=Jw (Jv [] []) ⟨[],[]⟩ Tryz.f171 N (Jt trivial)
def AaU:Sig:=.of [J7] [JM,J3] (fun a=>cZ N a)
def AgV (N:Nat):Ju 215 (AaU N):=Jw (Jv [] []) ⟨[],[]⟩ Tryz.f215 N (Jt trivial)
def Akl:List (Nat×Nrm):=[(3,⟨[4],[],[],[],[]⟩),(30,⟨[0,4,42,43],[],[],[],[]⟩)]
def AlG:Lk:=⟨[],[(30,⟨[(0,.i),(4,.c x64),(42,.i),(43,.c x64)],[]⟩,[(0,⟨[(4,.c x64)],[]⟩)])]⟩
def AaV:Sig:=.of [J7] [J3,J3] (fun a=>Xu N a)
def AgW (N:Nat):Ju 216 (AaV N):=Jw (Jv [] Akl [] [] [] [8,12,16,20,21,25,29,30,31,32]) AlG Tryz.f216 N (Jt trivial)
def NU:Sig:=.of [fK] [J3] (fun a=>Lp N a)
def NQ (N:Nat):Ju 173 (NU N):=Jw (Jv [] []) ⟨[],[]⟩ Tryz.f173 N (Jt trivial)
def Af0:Sig:=.of [J7,J3] [JM] (fun a=>dC N a.1 a.2)
def Ako (N:Nat):Ju 247 (Af0 N):=Jw (Jv [] []) ⟨[],[]⟩ Tryz.f247 N (Jt trivial)
def Akn:Sig:=.of [J7,J3] [JM] (fun a=>iL N a.1 a.2)
def An1 (N:Nat):Ju 219 (Akn N):=Jw (Jv [] []) ⟨[],[]⟩ Tryz.f219 N (Jt trivial)
open Go.Proofs
def Af6:List (Nat×Nrm):=[(3,⟨[6],[([6],5,Aw,1020480)],[],[(1000000,1020480)],[]⟩),(11,⟨[6,9,30,31,32],[([6],5,Aw,1008192)],[],[(1004112,1008192)],[]⟩),(19,⟨[6,9,30,31,32],[([6],5,Aw,1016384)],[],[(1012288,1016384)],[]⟩),(30,⟨[6,30,31,32],[([6],5,Aw,1000000)],[],[(48384,1000000)],[]⟩),(42,⟨[6,8,9,30,31,32],[([9],5,Aw,1004096),([6],5,Aw,1004112)],[],[(43264,1004096),(1000000,1004112)],[]⟩),(58,⟨[6,9,10,30,31,32],[([6],5,Aw,1012288)],[],[(1008192,1012288)],[]⟩)]
def Aha:Lk:=⟨[],[(30,⟨[(6,.c (xo 1000000)),(30,.c (xo 40192)),(31,.i),(32,.c x64)],[(40192,.arr 3 false Au),(1000000,.arr 5 false Aw)]⟩,[(0,⟨[(6,.c (xo 1020480))],[(1020480,.arr 5 false Aw)]⟩)]),(42,⟨[(6,.c (xo 1004112)),(8,.c x64),(9,.c (xo 1004096)),(30,.c (xo 40192)),(31,.i),(32,.i)],[(40192,.arr 3 false Au),(1004096,.arr 5 false Aw),(1004112,.arr 5 false Aw)]⟩,[(2,⟨[(6,.c (xo 1008192)),(9,.c (xo 43264)),(30,.c (xo 40192)),(31,.i),(32,.i)],[(40192,.arr 3 false Au),(43264,.arr 5 false Aw),(1008192,.arr 5 false Aw)]⟩)]),(58,⟨[(6,.c (xo 1012288)),(9,.c (xo 43264)),(10,.c x64),(30,.c (xo 40192)),(31,.i),(32,.i)],[(40192,.arr 3 false Au),(43264,.arr 5 false Aw),(1012288,.arr 5 false Aw)]⟩,[(4,⟨[(6,.c (xo 1016384)),(9,.c (xo 43264)),(30,.c (xo 40192)),(31,.i),(32,.i)],[(40192,.arr 3 false Au),(43264,.arr 5 false Aw),(1016384,.arr 5 false Aw)]⟩)])]⟩
def nU:Sig:=.of [J7] [J7,J3] (fun a=>WQ N a)
def Ac5 (N:Nat):Ju 59 (nU N):=Jw (Jv [(80,uD N)] Af6) Aha Tryz.f59 N (Jt ⟨xR N,trivial⟩)
def jK:Sig:=.of [J3,Sq2] [J7,J3] (fun a=>Ru N a.1 a.2)
def iP (N:Nat):Ju 62 (jK N):=Jw (Jv [(57,uC N)] []) ⟨[],[]⟩ Tryz.f62 N (Jt ⟨xQ N,trivial⟩)
def ApG:List (Nat×Nrm):=[(3,⟨[5],[([5],9,Aq,1016384)],[],[(1000000,1016384)],[]⟩),(11,⟨[0,1,5,6,7,8],[([5],9,Aq,1012288)],[],[(1008192,1012288)],[]⟩),(14,⟨[0,1,5,6],[([5],9,Aq,1000000)],[],[(44288,1000000),(1012288,1000000)],[]⟩),(33,⟨[0,1,5,6,7],[([5],9,Aq,1004096)],[],[(1000000,1004096)],[]⟩),(42,⟨[0,1,5,6,7,8,27,28,29],[([5,27],9,Aq,1008192)],[],[(1004096,1008192)],[]⟩)]
def Arl:Lk:=⟨[(33,⟨[(0,.c AQ),(1,.i),(5,.c (xo 1004096)),(6,.i),(7,.c xs)],[(0,.box Bz),(1004096,.arr 9 false Aq)]⟩)],[(14,⟨[(0,.c AQ),(1,.i),(5,.c (xo 1000000)),(6,.c x64)],[(0,.box Bz),(1000000,.arr 9 false Aq)]⟩,[(0,⟨[(5,.c (xo 1016384))],[(0,.box Bz),(1016384,.arr 9 false Aq)]⟩)]),(42,⟨[(0,.c AQ),(1,.i),(5,.c (xo 1008192)),(6,.i),(7,.i),(8,.c xb),(27,.c (xo 1008192)),(28,.i),(29,.c x64)],[(0,.box Bz),(1008192,.arr 9 false Aq)]⟩,[(2,⟨[(0,.c AQ),(1,.i),(5,.c (xo 1012288)),(6,.i),(7,.i),(8,.c xb)],[(0,.box Bz),(1012288,.arr 9 false Aq)]⟩)])]⟩
def Ah3:Sig:=.of [aK,JM] [Sq2] (fun a=>kP N a.1 a.2)
def Al6 (N:Nat):Ju 27 (Ah3 N):=Jw (Jv [(9,La N),(65,lZ N)] ApG) Arl Tryz.f27 N (Jt ⟨KW N,sQ N,trivial⟩)
def Aiq:List (Nat×Nrm):=[(3,⟨[3],[([3],58,(.str Aq),1012288)],[],[(1000000,1012288)],[]⟩),(11,⟨[0,3,4,5,6],[([3],58,(.str Aq),1008192)],[],[(1004096,1008192)],[]⟩),(14,⟨[0,3,4],[([3],58,(.str Aq),1000000)],[],[(43264,1000000),(1008192,1000000)],[]⟩),(34,⟨[0,3,4,5,6,23,24,25],[([3,23],58,(.str Aq),1004096)],[],[(1000000,1004096)],[]⟩)]
def AjT:Lk:=⟨[],[(14,⟨[(0,.c AQ),(3,.c (xo 1000000)),(4,.c x64)],[(0,.box Bz),(1000000,.arr 58 false (.str Aq))]⟩,[(0,⟨[(3,.c (xo 1012288))],[(0,.box Bz),(1012288,.arr 58 false (.str Aq))]⟩)]),(34,⟨[(0,.c AQ),(3,.c (xo 1004096)),(4,.i),(5,.c AV),(6,.c xb),(23,.c (xo 1004096)),(24,.i),(25,.c x64)],[(0,.box Bz),(34048,.box [xs,xs]),(1004096,.arr 58 false (.str Aq))]⟩,[(2,⟨[(0,.c AQ),(3,.c (xo 1008192)),(4,.i),(5,.c AV),(6,.c xb)],[(0,.box Bz),(34048,.box [xs,xs]),(1008192,.arr 58 false (.str Aq))]⟩)])]⟩
def xB:Sig:=.of [aK] [Sq3] (fun a=>YX N a)
def Afo (N:Nat):Ju 28 (xB N):=Jw (Jv [(9,La N),(65,lZ N)] Aiq) AjT Tryz.f28 N (Jt ⟨KW N,sQ N,trivial⟩)
def sS:Sig:=.of [aK] [Asu] (fun a=>XV N a)
def AdR (N:Nat):Ju 145 (sS N):=Jw (Jv [(9,La N)] []) ⟨[],[]⟩ Tryz.f145 N (Jt ⟨KW N,trivial⟩)
def AgU:List (Nat×Nrm):=[(17,⟨[0,2,3],[],[],[],[]⟩)]
def Ail:Lk:=⟨[(17,⟨[(0,.i),(2,.c AB),(3,.c xs)],[(33280,.box BG),(33281,.JR 165 false Ar)]⟩)],[]⟩
def sN:Sig:=.of [J3] [Sq4] (fun a=>UG N a)
def AdQ (N:Nat):Ju 68 (sN N):=Jw (Jv [(146,zJ N)] AgU) Ail Tryz.f68 N (Jt ⟨AaX N,trivial⟩)
def lY:Sig:=.of [aK,J7] [J7] (fun a=>Y6 N a.1 a.2)
def sO (N:Nat):Ju 10 (lY N):=Jw (Jv [(9,La N)] []) ⟨[],[]⟩ Tryz.f10 N (Jt ⟨KW N,trivial⟩)
def An7:List (Nat×Nrm):=[(3,⟨[4],[([4],76,Tq5,1004096)],[],[(1000000,1004096)],[]⟩),(10,⟨[0,4],[([4],76,Tq5,1000000)],[],[(38656,1000000)],[]⟩)]
def Aql:Lk:=⟨[],[(10,⟨[(0,.c xs),(4,.c (xo 1000000))],[(1000000,.arr 76 false Tq5)]⟩,[(0,⟨[(4,.c (xo 1004096))],[(1004096,.arr 76 false Tq5)]⟩)])]⟩
def Xw:Sig:=.of [J7] [.cell false (.sl 76 Tq5),J3] (fun a=>V9 N a)
def WR (N:Nat):Ju 34 (Xw N):=Jw (Jv [(69,dE N)] An7) Aql Tryz.f34 N (Jt ⟨dF N,trivial⟩)
open Go.Proofs
def AgJ:Sig:=.of [Sq7] [JM] (fun a=>aU N a)
def AbJ (N:Nat):Ju 128 (AgJ N):=Jw (Jv [] []) ⟨[],[]⟩ Tryz.f128 N (Jt trivial)
def AgK:Sig:=.of [Sq7] [JM] (fun a=>aV N a)
def AbK (N:Nat):Ju 131 (AgK N):=Jw (Jv [] []) ⟨[],[]⟩ Tryz.f131 N (Jt trivial)
def AgL:Sig:=.of [Sq7] [JM] (fun a=>aW N a)
def AbL (N:Nat):Ju 134 (AgL N):=Jw (Jv [] []) ⟨[],[]⟩ Tryz.f134 N (Jt trivial)
def AgM:Sig:=.of [Sq7] [JM] (fun a=>aX N a)
def AbM (N:Nat):Ju 137 (AgM N):=Jw (Jv [] []) ⟨[],[]⟩ Tryz.f137 N (Jt trivial)
def Zo:Sig:=.of [.box [(false,.bool)]] [JM] (fun a=>gX N a)
def fB (N:Nat):Ju 45 (Zo N):=Jw (Jv [] []) ⟨[],[]⟩ Tryz.f45 N (Jt trivial)
def MN:Sig:=.of [.box [(false,.bool)],J7,J3] [J7] (fun a=>MC N a.1 a.2.1 a.2.2)
def MF (N:Nat):Ju 175 (MN N):=Jw (Jv [] []) ⟨[],[]⟩ Tryz.f175 N (Jt trivial)
def Ar9:List (Nat×Nrm):=[(3,⟨[0,1,6],[],[],[],[]⟩),(22,⟨[0,1,6,21,22,23],[],[],[],[]⟩),(77,⟨[1,9],[],[],[(45568,1008192),(47616,1008192),(49664,1008192),(52480,1008192)],[]⟩)]
def Au1:Lk:=⟨[(77,⟨[(1,.i),(9,.c (xo 1008192))],[(1008192,.arr 5 false Aw)]⟩)],[(22,⟨[(0,.i),(1,.i),(6,.c x64),(21,.i),(22,.i),(23,.c x64)],[]⟩,[(0,⟨[(0,.i),(1,.i),(6,.c x64)],[]⟩)])]⟩
def VK:Sig:=.of [J3,Sq2] [J7,J3] (fun a=>QP N a.1 a.2)
def Tm (N:Nat):Ju 217 (VK N):=Jw (Jv [(246,iR N)] Ar9) Au1 Tryz.f217 N (Jt ⟨o9 N,trivial⟩)
def Afz:List (Nat×Nrm):=[(3,⟨[0,3],[],[],[],[]⟩),(11,⟨[5],[([5],5,Aw,1012288)],[],[(1008192,1012288)],[]⟩),(14,⟨[0,3,4],[],[],[],[]⟩),(34,⟨[0,3,5,18,19],[([5],5,Aw,1008192)],[],[(41216,1008192)],[]⟩)]
def AgX:Lk:=⟨[],[(14,⟨[(0,.i),(3,.c x64),(4,.c x64)],[]⟩,[(0,⟨[(0,.i),(3,.c x64)],[]⟩)]),(34,⟨[(0,.i),(3,.i),(5,.c (xo 1008192)),(18,.i),(19,.c x64)],[(1008192,.arr 5 false Aw)]⟩,[(2,⟨[(5,.c (xo 1012288))],[(1012288,.arr 5 false Aw)]⟩)])]⟩
def Yw:Sig:=.of [J3] [J7] (fun a=>QD N a)
def dB (N:Nat):Ju 186 (Yw N):=Jw (Jv [] Afz) AgX Tryz.f186 N (Jt trivial)
open Go.Proofs
def YZ:Sig:=.of [.cell false (.int .u8)] [JM] (fun a=>Rq N a)
def Z5 (N:Nat):Ju 253 (YZ N):=Jw (Jv [] [] [] [] [] [5,8,9,12,15,16,17,20,23,24]) ⟨[],[]⟩ Tryz.f253 N (Jt trivial)
def AlI:List (Nat×Nrm):=[(3,⟨[],[],[],[],[]⟩),(10,⟨[0,1,5],[],[],[],[]⟩)]
def An4:Lk:=⟨[],[(10,⟨[(0,.i),(1,.i),(5,.c x64)],[]⟩,[(0,⟨[],[]⟩)])]⟩
def mO:Sig:=.of [.cell false (.int .u8),J7] [JM] (fun a=>Ue N a.1 a.2)
def tX (N:Nat):Ju 254 (mO N):=Jw (Jv [] AlI) An4 Tryz.f254 N (Jt trivial)
def AnF:List (Nat×Nrm):=[(3,⟨[],[],[],[],[]⟩),(10,⟨[0,3],[],[],[],[]⟩),(15,⟨[0,3,5,6,7],[],[],[],[]⟩),(65,⟨[0,3,4,5,6],[],[],[],[]⟩),(82,⟨[0,3,5,6,7,8],[],[],[],[]⟩)]
def Aqp:Lk:=⟨[(65,⟨[(0,.i),(3,.c x64),(4,.i),(5,.c x64),(6,.c x64)],[]⟩)],[(10,⟨[(0,.i),(3,.c x64)],[]⟩,[(0,⟨[],[]⟩)]),(82,⟨[(0,.i),(3,.i),(5,.i),(6,.i),(7,.c x64),(8,.c x64)],[]⟩,[(3,⟨[(0,.i),(3,.i),(5,.i),(6,.i),(7,.c x64)],[]⟩)])]⟩
def AfB:Sig:=.of [J7] [JM] (fun a=>dH N a)
def Akx (N:Nat):Ju 255 (AfB N):=Jw (Jv [] AnF [] [] [] [87,90,91,94,97,98]) Aqp Tryz.f255 N (Jt trivial)
def AlP:List (Nat×Nrm):=[(3,⟨[5],[([5],9,Aq,1004096)],[],[(1000000,1004096)],[]⟩),(18,⟨[0,1,5,6,7],[([5],9,Aq,1000000)],[],[(40704,1000000)],[]⟩)]
def AnI:Lk:=⟨[],[(18,⟨[(0,.i),(1,.i),(5,.c (xo 1000000)),(6,.c x64),(7,.c x64)],[(1000000,.arr 9 false Aq)]⟩,[(0,⟨[(5,.c (xo 1004096))],[(1004096,.arr 9 false Aq)]⟩)])]⟩
def mW:Sig:=.of [J7,.cell false (.int .u8)] [Sq2] (fun a=>Rx N a.1 a.2)
def uH (N:Nat):Ju 233 (mW N):=Jw (Jv [] AlP) AnI Tryz.f233 N (Jt trivial)
def AlO:List (Nat×Nrm):=[(3,⟨[],[],[],[],[]⟩),(26,⟨[0,3,4,5],[],[],[],[]⟩)]
def AnH:Lk:=⟨[],[(26,⟨[(0,.i),(3,.i),(4,.c xb),(5,.c x64)],[]⟩,[(0,⟨[],[]⟩)])]⟩
def Adn:Sig:=.of [J7] [JM] (fun a=>YF N a)
def AiA (N:Nat):Ju 199 (Adn N):=Jw (Jv [] AlO [] [] [] [37,39,40,43,54,55]) AnH Tryz.f199 N (Jt trivial)
def xU:Sig:=.of [J7] [JM] (fun a=>VY N a)
def AfC (N:Nat):Ju 200 (xU N):=Jw (Jv [] []) ⟨[],[]⟩ Tryz.f200 N (Jt trivial)
def AlT:List (Nat×Nrm):=[(3,⟨[3],[],[],[],[]⟩),(14,⟨[3,57,58,59],[],[],[],[]⟩)]
def AnM:Lk:=⟨[],[(14,⟨[(3,.c x64),(57,.c (xo 47360)),(58,.i),(59,.c x64)],[(47360,.arr 4 false (.bool .nil))]⟩,[(0,⟨[(3,.c x64)],[]⟩)])]⟩
def Adq:Sig:=.of [Sq7] [J3] (fun a=>YG N a)
def AiE (N:Nat):Ju 52 (Adq N):=Jw (Jv [] AlT) AnM Tryz.f52 N (Jt trivial)
def Ads:Sig:=.of [] [Sq2] (fun _=>jO N)
def AiG (N:Nat):Ju 142 (Ads N):=Jw (Jv [] []) ⟨[],[]⟩ Tryz.f142 N (Jt trivial)
open Go.Proofs
def Mc:Sig:=.of [.box [(false,.bool)],J3,Sq2] [J7] (fun a=>L8 N a.1 a.2.1 a.2.2)
def LP (N:Nat):Ju 174 (Mc N):=Jw (Jv [(217,VK N),(175,MN N)] []) ⟨[],[]⟩ Tryz.f174 N (Jt ⟨Tm N,MF N,trivial⟩)
def Oy:Sig:=.of [J7] [JM] (fun a=>KL N a)
def Ol (N:Nat):Ju 37 (Oy N):=Jw (Jv [(80,uD N)] []) ⟨[],[]⟩ Tryz.f37 N (Jt ⟨xR N,trivial⟩)
def AfA:List (Nat×Nrm):=[(7,⟨[],[],[],[],[]⟩),(25,⟨[0,1,11],[],[],[],[]⟩),(30,⟨[0,1,5],[],[],[],[]⟩)]
def Ahc:Lk:=⟨[(25,⟨[(0,.i),(1,.i),(11,.c xb)],[]⟩)],[(30,⟨[(0,.i),(1,.i),(5,.c x64)],[]⟩,[(1,⟨[],[]⟩)])]⟩
def nV:Sig:=.of [J3,J7] [JM] (fun a=>Ny N a.1 a.2)
def Ac6 (N:Nat):Ju 234 (nV N):=Jw (Jv [(255,AfB N),(253,YZ N),(254,mO N)] AfA [] [] [] [22,27,32,33,34,37,43,44,50,51]) Ahc Tryz.f234 N (Jt ⟨Akx N,Z5 N,tX N,trivial⟩)
def Aqq:List (Nat×Nrm):=[(3,⟨[],[],[],[],[]⟩),(11,⟨[10,11,12],[],[],[],[]⟩),(18,⟨[10,11,12],[],[],[],[]⟩),(38,⟨[4,5,10,11,12],[],[],[],[]⟩)]
def Arx:Lk:=⟨[],[(18,⟨[(10,.i),(11,.i),(12,.c x64)],[]⟩,[(0,⟨[],[]⟩)]),(38,⟨[(4,.i),(5,.c x64),(10,.i),(11,.i),(12,.i)],[]⟩,[(2,⟨[(10,.i),(11,.i),(12,.i)],[]⟩)])]⟩
def YC:Sig:=.of [J7] [JM] (fun a=>Oh N a)
def XZ (N:Nat):Ju 231 (YC N):=Jw (Jv [(233,mW N),(253,YZ N)] Aqq [] [] [] [19,23,24,28,29,36]) Arx Tryz.f231 N (Jt ⟨uH N,Z5 N,trivial⟩)
def AlU:List (Nat×Nrm):=[(3,⟨[],[],[],[],[]⟩),(10,⟨[0,5,6,7],[],[],[],[]⟩)]
def AnO:Lk:=⟨[],[(10,⟨[(0,.i),(5,.i),(6,.i),(7,.c x64)],[]⟩,[(0,⟨[],[]⟩)])]⟩
def Adr:Sig:=.of [J7] [JM] (fun a=>jM N a)
def AiF (N:Nat):Ju 53 (Adr N):=Jw (Jv [(142,Ads N)] AlU) AnO Tryz.f53 N (Jt ⟨AiG N,trivial⟩)
def Wp:Sig:=.of [J7] [Ut,J3] (fun a=>TF N a)
def UN (N:Nat):Ju 32 (Wp N):=Jw (Jv [(69,dE N)] []) ⟨[],[]⟩ Tryz.f32 N (Jt ⟨dF N,trivial⟩)
def AlM:List (Nat×Nrm):=[(3,⟨[],[],[],[],[]⟩),(18,⟨[1,5],[],[],[],[]⟩)]
def AnD:Lk:=⟨[],[(18,⟨[(1,.i),(5,.c xs)],[]⟩,[(0,⟨[],[]⟩)])]⟩
def iO (N n:Nat):Sig:=.of [Ut,.cell false (.int .i64)] [.cell false (.int .i64)] (fun a=>Uf N n a.1 a.2)
def nX (N:Nat): ∀ n,Spec Tryz.prog 143 (iO N n)
 | 0=>y9 (C:=ctx Tryz.prog [] []) (fn:=Tryz.f143) (Jt (gs:=[]) trivial) (by kernel_rfl) (by kernel_rfl)
 | n+1=>OG (C:=ctx Tryz.prog ((143,iO N n)::[(69,dE N)]) AlM) (L:=AnD) (fn:=Tryz.f143) (N:=N) (Jt ⟨nX N n,⟨dF N,trivial⟩⟩)
def Adl:Sig:=iO N N
def Ai7 (N:Nat):Spec Tryz.prog 143 (Adl N):=nX N N
def MJ:Sig:=.of [J3,Sq2] [J7] (fun a=>JL N a.1 a.2)
def L9 (N:Nat):Ju 20 (MJ N):=Jw (Jv [(57,uC N)] []) ⟨[],[]⟩ Tryz.f20 N (Jt ⟨xQ N,trivial⟩)
open Go.Proofs
def Px:Sig:=.of [fK] [J3] (fun a=>MB N a)
def OW (N:Nat):Ju 181 (Px N):=Jw (Jv [] []) ⟨[],[]⟩ Tryz.f181 N (Jt trivial)
def rO:Sig:=.of [fK] [Ut,J3] (fun a=>XM N a)
def AdM (N:Nat):Ju 229 (rO N):=Jw (Jv [] []) ⟨[],[]⟩ Tryz.f229 N (Jt trivial)
def AlC:List (Nat×Nrm):=[(3,⟨[3],[([3],3,Au,1016384)],[],[(1000000,1016384)],[]⟩),(7,⟨[0,3,4],[],[],[],[]⟩),(11,⟨[],[],[],[],[]⟩),(14,⟨[0,3,4],[([3],3,Au,1000000)],[],[(42240,1000000)],[]⟩),(30,⟨[0,3,4,5],[([3],3,Au,1004096)],[],[(1000000,1004096)],[]⟩)]
def Anx:Lk:=⟨[],[(14,⟨[(0,.i),(3,.c (xo 1000000)),(4,.c x64)],[(1000000,.arr 3 false Au)]⟩,[(0,⟨[(3,.c (xo 1016384))],[(1016384,.arr 3 false Au)]⟩)]),(30,⟨[(0,.i),(3,.c (xo 1004096)),(4,.c x64),(5,.c x64)],[(1004096,.arr 3 false Au)]⟩,[(1,⟨[(0,.i),(3,.c (xo 42240)),(4,.c x64)],[(42240,.arr 3 false Au)]⟩),(2,⟨[],[]⟩)])]⟩
def Adh:Sig:=.of [J7] [Asv] (fun a=>jF N a)
def Aiv (N:Nat):Ju 249 (Adh N):=Jw (Jv [] AlC) Anx Tryz.f249 N (Jt trivial)
def vK:Sig:=.of [Sq2,AkI] [] (fun a=>UA N a.1 a.2)
def lQ (N:Nat):Ju 184 (vK N):=Jw (Jv [] []) ⟨[],[]⟩ Tryz.f184 N (Jt trivial)
def vJ:Sig:=.of [Sq2,AkI] [] (fun a=>U1 N a.1 a.2)
def lN (N:Nat):Ju 185 (vJ N):=Jw (Jv [] []) ⟨[],[]⟩ Tryz.f185 N (Jt trivial)
def AiT:List (Nat×Nrm):=[(3,⟨[],[],[],[],[]⟩),(10,⟨[0,3],[],[],[],[]⟩)]
def AkA:Lk:=⟨[],[(10,⟨[(0,.i),(3,.c x64)],[]⟩,[(0,⟨[],[]⟩)])]⟩
def yA:Sig:=.of [.cell false (.sl 76 Tq5)] [JM] (fun a=>Wh N a)
def Agl (N:Nat):Ju 295 (yA N):=Jw (Jv [] AiT) AkA Tryz.f295 N (Jt trivial)
def Zk:Sig:=.of [J7] [J3] (fun a=>U0 N a)
def fA (N:Nat):Ju 191 (Zk N):=Jw (Jv [] []) ⟨[],[]⟩ Tryz.f191 N (Jt trivial)
def AfV:List (Nat×Nrm):=[(29,⟨[1,4,5],[],[],[],[]⟩)]
def Ahj:Lk:=⟨[(29,⟨[(1,.c AL),(4,.i),(5,.c xb)],[(33024,.box [xs,xb,xs])]⟩)],[]⟩
def o7:Sig:=.of [Asw] [JM] (fun a=>Oi N a)
def AcI (N:Nat):Ju 39 (o7 N):=Jw (Jv [] AfV) Ahj Tryz.f39 N (Jt trivial)
open Go.Proofs
def NI:Sig:=.of [AhD,J3] [Ut,JM] (fun a=>Lc N a.1 a.2)
def NC (N:Nat):Ju 154 (NI N):=Jw (Jv [] []) ⟨[],[]⟩ Tryz.f154 N (Jt trivial)
def xN:Sig:=.of [J7] [JM,J3] (fun a=>Za N a)
def Af3 (N:Nat):Ju 155 (xN N):=Jw (Jv [] []) ⟨[],[]⟩ Tryz.f155 N (Jt trivial)
def Ai4:List (Nat×Nrm):=[(3,⟨[4],[],[],[],[]⟩),(33,⟨[0,4],[],[],[],[]⟩),(38,⟨[0,4,5],[],[],[],[]⟩)]
def Akw:Lk:=⟨[(33,⟨[(0,.i),(4,.c (xi .u64))],[]⟩)],[(38,⟨[(0,.i),(4,.c (xi .u64)),(5,.c x64)],[]⟩,[(0,⟨[(4,.c (xi .u64))],[]⟩)])]⟩
def xP:Sig:=.of [J7] [J3,J3] (fun a=>VX N a)
def Af7 (N:Nat):Ju 159 (xP N):=Jw (Jv [] Ai4 [] [] [] [9,13,17,21,22,26,30,31,32,33]) Akw Tryz.f159 N (Jt trivial)
def MZ:Sig:=.of [AhD] [J3] (fun a=>Kz N a)
def MQ (N:Nat):Ju 84 (MZ N):=Jw (Jv [] []) ⟨[],[]⟩ Tryz.f84 N (Jt trivial)
def Af2:Sig:=.of [J7] [J7,J3,J3] (fun a=>pJ N a)
def Akv (N:Nat):Ju 211 (Af2 N):=Jw (Jv [] [] [] [] [] [8,12,13,17,21,33,34,35]) ⟨[],[]⟩ Tryz.f211 N (Jt trivial)
def PR:Sig:=.of [AhD,J3] [Ut,J3] (fun a=>KT N a.1 a.2)
def Qg (N:Nat):Ju 158 (PR N):=Jw (Jv [] []) ⟨[],[]⟩ Tryz.f158 N (Jt trivial)
def Af1:List (Nat×Nrm):=[(3,⟨[],[],[],[],[]⟩),(10,⟨[0,3],[],[],[],[]⟩)]
def AgY:Lk:=⟨[],[(10,⟨[(0,.i),(3,.c x64)],[]⟩,[(0,⟨[],[]⟩)])]⟩
def nT:Sig:=.of [.cell false (.sl 76 Tq5)] [JM] (fun a=>WO N a)
def Ac4 (N:Nat):Ju 244 (nT N):=Jw (Jv [] Af1) AgY Tryz.f244 N (Jt trivial)
def AcD:List (Nat×Nrm):=[(3,⟨[],[],[],[],[]⟩),(18,⟨[0,1,12,13],[],[],[],[]⟩)]
def Aef:Lk:=⟨[],[(18,⟨[(0,.i),(1,.i),(12,.i),(13,.c x64)],[]⟩,[(0,⟨[],[]⟩)])]⟩
def fF:Sig:=.of [Sq2,Sq2] [JM] (fun a=>NW N a.1 a.2)
def zS (N:Nat):Ju 94 (fF N):=Jw (Jv [] AcD) Aef Tryz.f94 N (Jt trivial)
open Go.Proofs
def AeK:List (Nat×Nrm):=[(29,⟨[8,9],[],[],[],[]⟩)]
def AgP:Lk:=⟨[(29,⟨[(8,.i),(9,.c x64)],[(0,.box [Bl])]⟩)],[]⟩
def nM:Sig:=.of [fK,J3] [JM,J3] (fun a=>WM N a.1 a.2)
def AbR (N:Nat):Ju 170 (nM N):=Jw (Jv [(171,RY N),(215,AaU N)] AeK) AgP Tryz.f170 N (Jt ⟨SL N,AgV N,trivial⟩)
def Vs:Sig:=.of [J7] [J3,J3] (fun a=>O7 N a)
def Wu (N:Nat):Ju 172 (Vs N):=Jw (Jv [(216,AaV N)] []) ⟨[],[]⟩ Tryz.f172 N (Jt ⟨AgW N,trivial⟩)
def Ah8:Sig:=.of [J7] [J7,J3,J3] (fun a=>xJ N a)
def AlF (N:Nat):Ju 218 (Ah8 N):=Jw (Jv [(247,Af0 N)] []) ⟨[],[]⟩ Tryz.f218 N (Jt ⟨Ako N,trivial⟩)
def Uk:Sig:=.of [fK,J3] [Ut,J3] (fun a=>OX N a.1 a.2)
def Vw (N:Nat):Ju 192 (Uk N):=Jw (Jv [(229,rO N)] []) ⟨[],[]⟩ Tryz.f192 N (Jt ⟨AdM N,trivial⟩)
def Anv:List (Nat×Nrm):=[(3,⟨[7],[([7],9,Aq,1004096)],[],[(1000000,1004096)],[]⟩),(34,⟨[7,36,37,38],[([7],9,Aq,1000000)],[],[(45056,1000000)],[]⟩)]
def ApS:Lk:=⟨[],[(34,⟨[(7,.c (xo 1000000)),(36,.c (xo 41728)),(37,.i),(38,.c x64)],[(41728,.arr 3 false Au),(1000000,.arr 9 false Aq)]⟩,[(0,⟨[(7,.c (xo 1004096))],[(1004096,.arr 9 false Aq)]⟩)])]⟩
def tC:Sig:=.of [J7] [J7,J3] (fun a=>bY N a)
def xG (N:Nat):Ju 221 (tC N):=Jw (Jv [(249,Adh N),(250,Abv N),(246,iR N)] Anv) ApS Tryz.f221 N (Jt ⟨Aiv N,Ahm N,o9 N,trivial⟩)
def AoO (N n:Nat):Sig:=.of [Sq2,AkI] [] (AuV N n)
def AuW (N:Nat):aI Tryz.prog (AoO N):=qB (Jz:=[Sq2,AkI]) (JI:=[]) (l:=[(184,fun a=>UA N a.1 a.2)]) ⟨lQ N,trivial⟩
def AoP (N n:Nat):Sig:=.of [Sq2,AkI] [] (AuX N n)
def AuY (N:Nat):aI Tryz.prog (AoP N):=qB (Jz:=[Sq2,AkI]) (JI:=[]) (l:=[(185,fun a=>U1 N a.1 a.2)]) ⟨lN N,trivial⟩
def AfU:Sig:=.of [AhD,J3] [JM,J3] (fun a=>pR N a.1 a.2)
def Ak0 (N:Nat):Ju 82 (AfU N):=Jw (Jv [(154,NI N),(155,xN N)] []) ⟨[],[]⟩ Tryz.f82 N (Jt ⟨NC N,Af3 N,trivial⟩)
open Go.Proofs
def AlY:Sig:=.of [.cell false (.int .u8)] [JM] (fun a=>Va N a)
def Ahp (N:Nat):Ju 284 (AlY N):=Jw (Jv [] []) ⟨[],[]⟩ Tryz.f284 N (Jt trivial)
def lX:Sig:=.of [.cell false (.int .u8)] [JM] (fun a=>Uc N a)
def sF (N:Nat):Ju 288 (lX N):=Jw (Jv [] [] [] [] [] [5,8,9,12,15,16]) ⟨[],[]⟩ Tryz.f288 N (Jt trivial)
def sD:Sig:=.of [.cell false (.int .u8)] [JM] (fun a=>TC N a)
def wV (N:Nat):Ju 289 (sD N):=Jw (Jv [] []) ⟨[],[]⟩ Tryz.f289 N (Jt trivial)
def Ada:Sig:=.of [J7] [J7,J7] (fun a=>jC N a)
def Aid (N:Nat):Ju 266 (Ada N):=Jw (Jv [] []) ⟨[],[]⟩ Tryz.f266 N (Jt trivial)
def Aj7:Sig:=.of [J7,J3] [JM] (fun a=>iF N a.1 a.2)
def Ani (N:Nat):Ju 267 (Aj7 N):=Jw (Jv [] []) ⟨[],[]⟩ Tryz.f267 N (Jt trivial)
def AaF:Sig:=.of [J7] [JM] (fun a=>Xm N a)
def AgS (N:Nat):Ju 243 (AaF N):=Jw (Jv [] []) ⟨[],[]⟩ Tryz.f243 N (Jt trivial)
def AhC:Sig:=.of [J3] [J3] (fun a=>Agn N a)
def Ama (N:Nat):Ju 236 (AhC N):=Jw (Jv [] []) ⟨[],[]⟩ Tryz.f236 N (Jt trivial)
def AhL:Sig:=.of [Sq7] [JM] (fun a=>fZ N a)
def AdC (N:Nat):Ju 101 (AhL N):=Jw (Jv [] []) ⟨[],[]⟩ Tryz.f101 N (Jt trivial)
open Go.Proofs
def AhM:Sig:=.of [Sq7] [JM] (fun a=>gB N a)
def AdD (N:Nat):Ju 104 (AhM N):=Jw (Jv [] []) ⟨[],[]⟩ Tryz.f104 N (Jt trivial)
def AhN:Sig:=.of [Sq7] [JM] (fun a=>gG N a)
def AdE (N:Nat):Ju 107 (AhN N):=Jw (Jv [] []) ⟨[],[]⟩ Tryz.f107 N (Jt trivial)
def AhO:Sig:=.of [Sq7] [JM] (fun a=>gI N a)
def AdF (N:Nat):Ju 110 (AhO N):=Jw (Jv [] []) ⟨[],[]⟩ Tryz.f110 N (Jt trivial)
def AhP:Sig:=.of [Sq7] [JM] (fun a=>gJ N a)
def AdG (N:Nat):Ju 113 (AhP N):=Jw (Jv [] []) ⟨[],[]⟩ Tryz.f113 N (Jt trivial)
def AhQ:Sig:=.of [Sq7] [JM] (fun a=>UB N a)
def AdH (N:Nat):Ju 116 (AhQ N):=Jw (Jv [] []) ⟨[],[]⟩ Tryz.f116 N (Jt trivial)
def AhR:Sig:=.of [Sq7] [JM] (fun a=>gK N a)
def AdI (N:Nat):Ju 119 (AhR N):=Jw (Jv [] []) ⟨[],[]⟩ Tryz.f119 N (Jt trivial)
def AhS:Sig:=.of [Sq7] [JM] (fun a=>gQ N a)
def AdJ (N:Nat):Ju 122 (AhS N):=Jw (Jv [] []) ⟨[],[]⟩ Tryz.f122 N (Jt trivial)
def AhT:Sig:=.of [Sq7] [JM] (fun a=>gU N a)
def AdK (N:Nat):Ju 125 (AhT N):=Jw (Jv [] []) ⟨[],[]⟩ Tryz.f125 N (Jt trivial)
open Go.Proofs
def Arq:List (Nat×Nrm):=[(3,⟨[4],[([4],3,Au,1004096)],[],[(1000000,1004096)],[]⟩),(26,⟨[4,18,19,20],[([4],3,Au,1000000)],[],[(40704,1000000)],[]⟩)]
def AtQ:Lk:=⟨[],[(26,⟨[(4,.c (xo 1000000)),(18,.i),(19,.i),(20,.c x64)],[(1000000,.arr 3 false Au)]⟩,[(0,⟨[(4,.c (xo 1004096))],[(1004096,.arr 3 false Au)]⟩)])]⟩
def Acw:Sig:=.of [J7] [Sq1] (fun a=>tJ N a)
def Adg (N:Nat):Ju 147 (Acw N):=Jw (Jv [(204,WW N),(205,Am6 N),(206,Aka N)] Arq) AtQ Tryz.f147 N (Jt ⟨lD N,ApU N,Anz N,trivial⟩)
def AlX:Sig:=.of [.cell false (.int .u8)] [JM] (fun a=>UZ N a)
def Aho (N:Nat):Ju 281 (AlX N):=Jw (Jv [(282,Ady N),(283,WG N)] []) ⟨[],[]⟩ Tryz.f281 N (Jt ⟨AiS N,YM N,trivial⟩)
def Ank:List (Nat×Nrm):=[(3,⟨[],[],[],[],[]⟩),(18,⟨[27,28,29],[],[],[],[]⟩)]
def Ap2:Lk:=⟨[],[(18,⟨[(27,.c (xo 39680)),(28,.i),(29,.c x64)],[(39680,.arr 5 false Aw)]⟩,[(0,⟨[],[]⟩)])]⟩
def Afe:Sig:=.of [J7] [JM] (fun a=>oW N a)
def Aj8 (N:Nat):Ju 285 (Afe N):=Jw (Jv [(288,lX N),(289,sD N)] Ank [] [] [] [8,12,13,17,18,25]) Ap2 Tryz.f285 N (Jt ⟨sF N,wV N,trivial⟩)
def Anm:List (Nat×Nrm):=[(3,⟨[],[],[],[],[]⟩),(18,⟨[32,33,34],[],[],[],[]⟩)]
def Ap3:Lk:=⟨[],[(18,⟨[(32,.c (xo 40960)),(33,.i),(34,.c x64)],[(40960,.arr 5 false Aw)]⟩,[(0,⟨[],[]⟩)])]⟩
def Aff:Sig:=.of [J7] [JM] (fun a=>bJ N a)
def Aj9 (N:Nat):Ju 263 (Aff N):=Jw (Jv [(265,XA N),(288,lX N),(289,sD N),(283,WG N)] Anm [] [] [] [9,13,14,18,19,26,27,30]) Ap3 Tryz.f263 N (Jt ⟨aG N,sF N,wV N,YM N,trivial⟩)
def Anh:List (Nat×Nrm):=[(3,⟨[],[],[],[],[]⟩),(26,⟨[3,4,5,6],[],[],[],[]⟩)]
def Ap1:Lk:=⟨[],[(26,⟨[(3,.i),(4,.i),(5,.c xb),(6,.c x64)],[]⟩,[(0,⟨[],[]⟩)])]⟩
def Afd:Sig:=.of [J7] [JM] (fun a=>bI N a)
def Aj6 (N:Nat):Ju 242 (Afd N):=Jw (Jv [(266,Ada N),(267,Aj7 N)] Anh [] [] [] [32,34,35,38,42,43]) Ap1 Tryz.f242 N (Jt ⟨Aid N,Ani N,trivial⟩)
def Ajf:List (Nat×Nrm):=[(3,⟨[2],[],[],[],[]⟩),(10,⟨[0,2,6,7,8],[],[],[],[]⟩)]
def AkR:Lk:=⟨[],[(10,⟨[(0,.i),(2,.c AB),(6,.i),(7,.i),(8,.c x64)],[(33280,.box BI)]⟩,[(0,⟨[(2,.c AB)],[(33280,.box BI)]⟩)])]⟩
def fV:Sig:=.of [J7] [Sq9,JM] (fun a=>Ql N a)
def nK (N:Nat):Ju 71 (fV N):=Jw (Jv [(44,XI N)] Ajf) AkR Tryz.f71 N (Jt ⟨Yt N,trivial⟩)
def Ar8:List (Nat×Nrm):=[(3,⟨[0,2,5,6,7,8,9],[],[],[],[]⟩),(74,⟨[0,2,5,6,7,8,9,50,51,52],[],[],[],[]⟩),(101,⟨[0,2,5,6,7,8],[],[],[],[]⟩)]
def Au0:Lk:=⟨[(101,⟨[(0,.i),(2,.c AB),(5,.c AV),(6,.i),(7,.c x64),(8,.c x64)],[(33280,.box BH),(34048,.box BH)]⟩)],[(74,⟨[(0,.i),(2,.c AB),(5,.c AV),(6,.i),(7,.c x64),(8,.i),(9,.i),(50,.c (xo 45568)),(51,.i),(52,.c x64)],[(33280,.box BH),(34048,.box BH),(45568,.arr 5 false Aw)]⟩,[(0,⟨[(0,.i),(2,.c AB),(5,.c AV),(6,.i),(7,.c x64),(8,.i),(9,.i)],[(33280,.box BH),(34048,.box BH)]⟩)])]⟩
def pX:Sig:=.of [J7] [Ut,J7,J3] (fun a=>ZB N a)
def nH (N:Nat):Ju 207 (pX N):=Jw (Jv [(236,AhC N)] Ar8) Au0 Tryz.f207 N (Jt ⟨Ama N,trivial⟩)
def AeL (N n:Nat):Sig:=.of [Sq7] [.cell false .bool] (Agt N n)
def Ajm (N:Nat):aI Tryz.prog (AeL N):=qB (Jz:=[Sq7]) (JI:=[.cell false .bool]) (l:=[(101,fun a=>fZ N a),(104,fun a=>gB N a),(107,fun a=>gG N a),(110,fun a=>gI N a),(113,fun a=>gJ N a),(116,fun a=>UB N a),(119,fun a=>gK N a),(122,fun a=>gQ N a),(125,fun a=>gU N a),(128,fun a=>aU N a),(131,fun a=>aV N a),(134,fun a=>aW N a),(137,fun a=>aX N a)]) ⟨AdC N,AdD N,AdE N,AdF N,AdG N,AdH N,AdI N,AdJ N,AdK N,AbJ N,AbK N,AbL N,AbM N,trivial⟩
open Go.Proofs
def Wn:Sig:=.of [J7] [JM] (fun a=>Og N a)
def UJ (N:Nat):Ju 70 (Wn N):=Jw (Jv [(147,Acw N)] []) ⟨[],[]⟩ Tryz.f70 N (Jt ⟨Adg N,trivial⟩)
def Amm (N n:Nat):Sig:=.of [.cell false (.int .u8)] [.cell false .bool] (Agv N n)
def AsV (N:Nat):aI Tryz.prog (Amm N):=qB (Jz:=[.cell false (.int .u8)]) (JI:=[.cell false .bool]) (l:=[(281,fun a=>UZ N a),(284,fun a=>Va N a)]) ⟨Aho N,Ahp N,trivial⟩
def Arb:List (Nat×Nrm):=[(3,⟨[],[],[],[],[]⟩),(18,⟨[9,10,11],[],[],[],[]⟩)]
def Atm:Lk:=⟨[],[(18,⟨[(9,.i),(10,.i),(11,.c x64)],[]⟩,[(0,⟨[],[]⟩)])]⟩
def bH:Sig:=.of [J7] [JM] (fun a=>QH N a)
def YR (N:Nat):Ju 260 (bH N):=Jw (Jv [(204,WW N),(285,Afe N)] Arb) Atm Tryz.f260 N (Jt ⟨lD N,Aj8 N,trivial⟩)
def lG:Sig:=.of [J7] [Ut,J3] (fun a=>aH N a)
def eX (N:Nat):Ju 148 (lG N):=Jw (Jv [(207,pX N)] []) ⟨[],[]⟩ Tryz.f148 N (Jt ⟨nH N,trivial⟩)
def Aoa:List (Nat×Nrm):=[(3,⟨[],[],[],[],[]⟩),(18,⟨[1,5],[],[],[],[]⟩)]
def AqC:Lk:=⟨[],[(18,⟨[(1,.i),(5,.c xs)],[]⟩,[(0,⟨[],[]⟩)])]⟩
def nI (N n:Nat):Sig:=.of [Ut,.cell false (.int .i64)] [.cell false (.int .i64)] (fun a=>VL N n a.1 a.2)
def uY (N:Nat): ∀ n,Spec Tryz.prog 149 (nI N n)
 | 0=>y9 (C:=ctx Tryz.prog [] []) (fn:=Tryz.f149) (Jt (gs:=[]) trivial) (by kernel_rfl) (by kernel_rfl)
 | n+1=>OG (C:=ctx Tryz.prog ((149,nI N n)::[(207,pX N)]) Aoa) (L:=AqC) (fn:=Tryz.f149) (N:=N) (Jt ⟨uY N n,⟨nH N,trivial⟩⟩)
def Ago:Sig:=nI N N
def AkB (N:Nat):Spec Tryz.prog 149 (Ago N):=uY N N
def Zp:Sig:=.of [.box [(false,.bool)],J3] [J7] (fun a=>gY N a.1 a.2)
def fC (N:Nat):Ju 166 (Zp N):=Jw (Jv [(186,Yw N),(174,Mc N)] []) ⟨[],[]⟩ Tryz.f166 N (Jt ⟨dB N,LP N,trivial⟩)
def Nh:Sig:=.of [.box [(false,.bool)],Sq2] [J7] (fun a=>Md N a.1 a.2)
def ML (N:Nat):Ju 167 (Nh N):=Jw (Jv [(174,Mc N)] []) ⟨[],[]⟩ Tryz.f167 N (Jt ⟨LP N,trivial⟩)
def nN:Sig:=.of [.box [(false,.bool)],J3,JM] [J7] (fun a=>wO N a.1 a.2.1 a.2.2)
def AbS (N:Nat):Ju 168 (nN N):=Jw (Jv [(213,nS N),(174,Mc N)] []) ⟨[],[]⟩ Tryz.f168 N (Jt ⟨Ac0 N,LP N,trivial⟩)
open Go.Proofs
def xX:Sig:=.of [J7] [JM] (fun a=>VZ N a)
def AfK (N:Nat):Ju 198 (xX N):=Jw (Jv [(231,YC N),(233,mW N)] [] [] [] [] [5,9,13,14,18,19,23,24,29,30]) ⟨[],[]⟩ Tryz.f198 N (Jt ⟨XZ N,uH N,trivial⟩)
def mP:Sig:=.of [J7] [J3] (fun a=>YB N a)
def tY (N:Nat):Ju 54 (mP N):=Jw (Jv [(32,Wp N),(143,Adl N)] []) ⟨[],[]⟩ Tryz.f54 N (Jt ⟨UN N,Ai7 N,trivial⟩)
def y7:Sig:=.of [J3,JM] [J7] (fun a=>Zc N a.1 a.2)
def AfR (N:Nat):Ju 18 (y7 N):=Jw (Jv [(55,kV N),(20,MJ N)] []) ⟨[],[]⟩ Tryz.f18 N (Jt ⟨AaZ N,L9 N,trivial⟩)
def Abr:Sig:=.of [J3,J3] [J7] (fun a=>NK N a.1 a.2)
def Ahk (N:Nat):Ju 19 (Abr N):=Jw (Jv [(56,kW N),(20,MJ N)] []) ⟨[],[]⟩ Tryz.f19 N (Jt ⟨Aba N,L9 N,trivial⟩)
def mY:Sig:=.of [J3,J3] [J7] (fun a=>Ry N a.1 a.2)
def uO (N:Nat):Ju 21 (mY N):=Jw (Jv [(58,uB N),(20,MJ N)] []) ⟨[],[]⟩ Tryz.f21 N (Jt ⟨AdS N,L9 N,trivial⟩)
def zO:Sig:=.of [J7] [J7] (fun a=>Vg N a)
def Abi (N:Nat):Ju 22 (zO N):=Jw (Jv [(59,nU N),(20,MJ N)] []) ⟨[],[]⟩ Tryz.f22 N (Jt ⟨Ac5 N,L9 N,trivial⟩)
def ApF:List (Nat×Nrm):=[(3,⟨[2,3],[],[],[(33637,1012288),(1000000,1012288)],[]⟩),(11,⟨[0,2,3,4,5],[([5],167,Tq1,1008192)],[],[(33637,1008208),(1004096,1008192),(1004112,1008208)],[]⟩),(14,⟨[0,2,3,4],[],[],[(33637,1000000),(44288,1000000)],[]⟩),(30,⟨[0,2,3,4,5,6],[([5],167,Tq1,1004096)],[],[(33637,1004112),(43008,1004096),(1000000,1004112)],[]⟩)]
def Ark:Lk:=⟨[],[(14,⟨[(0,.c AQ),(2,.c AB),(3,.c AU),(4,.c x64)],[(0,.box Bz),(33280,.box BG),(33281,.JR 165 false Ar),(33536,.box [(xo 1000000)]),(1000000,.arr 165 false Ar)]⟩,[(0,⟨[(2,.c AB),(3,.c AU)],[(0,.box Bz),(33280,.box BG),(33281,.JR 165 false Ar),(33536,.box [(xo 1012288)]),(1012288,.arr 165 false Ar)]⟩)]),(30,⟨[(0,.c AQ),(2,.c AB),(3,.c AU),(4,.i),(5,.c (xo 1004096)),(6,.c x64)],[(0,.box Bz),(33280,.box BG),(33281,.JR 165 false Ar),(33536,.box [(xo 1004112)]),(1004096,.arr 167 false Tq1),(1004112,.arr 165 false Ar)]⟩,[(2,⟨[(0,.c AQ),(2,.c AB),(3,.c AU),(4,.i),(5,.c (xo 1008192))],[(0,.box Bz),(33280,.box BG),(33281,.JR 165 false Ar),(33536,.box [(xo 1008208)]),(1008192,.arr 167 false Tq1),(1008208,.arr 165 false Ar)]⟩)])]⟩
def zB:Sig:=.of [aK] [Sq4] (fun a=>kN N a)
def AaO (N:Nat):Ju 66 (zB N):=Jw (Jv [(9,La N),(145,sS N)] ApF) Ark Tryz.f66 N (Jt ⟨KW N,AdR N,trivial⟩)
def xC:Sig:=.of [aK,J7] [J7] (fun a=>QI N a.1 a.2)
def Afp (N:Nat):Ju 33 (xC N):=Jw (Jv [(9,La N),(20,MJ N),(10,lY N)] []) ⟨[],[]⟩ Tryz.f33 N (Jt ⟨KW N,L9 N,sO N,trivial⟩)
open Go.Proofs
def Abs:List (Nat×Nrm):=[(3,⟨[],[],[],[],[]⟩),(18,⟨[0,1,12,13],[],[],[],[]⟩)]
def AcJ:Lk:=⟨[],[(18,⟨[(0,.i),(1,.i),(12,.i),(13,.c x64)],[]⟩,[(0,⟨[],[]⟩)])]⟩
def dS:Sig:=.of [Sq3,Sq3] [JM] (fun a=>Qw N a.1 a.2)
def wG (N:Nat):Ju 95 (dS N):=Jw (Jv [] Abs) AcJ Tryz.f95 N (Jt trivial)
def Ahg:List (Nat×Nrm):=[(3,⟨[],[],[],[],[]⟩),(11,⟨[2,3,20,21],[],[],[],[]⟩),(18,⟨[2,3,20,21],[],[],[],[]⟩),(19,⟨[2,3,5,8,20,21,41,42,43],[],[],[],[]⟩),(38,⟨[2,3,5,20,21,41,42,43],[],[],[],[]⟩),(54,⟨[2,3,5,7,8,20,21,41,42,43,51,52,53],[],[],[],[]⟩)]
def AiB:Lk:=⟨[],[(18,⟨[(2,.c AB),(3,.c AU),(20,.i),(21,.c x64)],[(33280,.box [Bj]),(33536,.box [Bj])]⟩,[(0,⟨[],[]⟩)]),(38,⟨[(2,.c AB),(3,.c AU),(5,.i),(20,.i),(21,.i),(41,.i),(42,.i),(43,.c x64)],[(33280,.box [Bj]),(33536,.box [Bj])]⟩,[(2,⟨[(2,.c AB),(3,.c AU),(20,.i),(21,.i)],[(33280,.box [Bj]),(33536,.box [Bj])]⟩)]),(54,⟨[(2,.c AB),(3,.c AU),(5,.i),(7,.c Ba),(8,.c xb),(20,.i),(21,.i),(41,.i),(42,.i),(43,.i),(51,.i),(52,.i),(53,.c x64)],[(33280,.box [Bj]),(33536,.box [Bj]),(34560,.box [xs,x64,xs])]⟩,[(4,⟨[(2,.c AB),(3,.c AU),(5,.i),(8,.c xb),(20,.i),(21,.i),(41,.i),(42,.i),(43,.i)],[(33280,.box [Bj]),(33536,.box [Bj])]⟩)])]⟩
def Z7:Sig:=.of [Sq4,Sq4] [JM] (fun a=>PZ N a.1 a.2)
def fE (N:Nat):Ju 165 (Z7 N):=Jw (Jv [] Ahg) AiB Tryz.f165 N (Jt trivial)
def vY:List (Nat×Nrm):=[(3,⟨[],[],[],[],[]⟩),(18,⟨[0,1,12,13],[],[],[],[]⟩)]
def zQ:Lk:=⟨[],[(18,⟨[(0,.i),(1,.i),(12,.i),(13,.c x64)],[]⟩,[(0,⟨[],[]⟩)])]⟩
def YH:Sig:=.of [.cell false (.sl 42 Tq0),.cell false (.sl 42 Tq0)] [JM] (fun a=>Pq N a.1 a.2)
def pO (N:Nat):Ju 99 (YH N):=Jw (Jv [] vY) zQ Tryz.f99 N (Jt trivial)
def AfJ:List (Nat×Nrm):=[(3,⟨[],[],[],[],[]⟩),(11,⟨[2,3,16,17],[],[],[],[]⟩),(18,⟨[2,3,16,17],[],[],[],[]⟩),(38,⟨[2,3,5,16,17,38,39],[],[],[],[]⟩)]
def Ahe:Lk:=⟨[],[(18,⟨[(2,.c AB),(3,.c AU),(16,.i),(17,.c x64)],[(33280,.box [Bj]),(33536,.box [Bj])]⟩,[(0,⟨[],[]⟩)]),(38,⟨[(2,.c AB),(3,.c AU),(5,.i),(16,.i),(17,.i),(38,.i),(39,.c x64)],[(33280,.box [Bj]),(33536,.box [Bj])]⟩,[(2,⟨[(2,.c AB),(3,.c AU),(16,.i),(17,.i)],[(33280,.box [Bj]),(33536,.box [Bj])]⟩)])]⟩
def Yx:Sig:=.of [Sq4,Sq4] [JM] (fun a=>Pm N a.1 a.2)
def dJ (N:Nat):Ju 100 (Yx N):=Jw (Jv [] AfJ) Ahe Tryz.f100 N (Jt trivial)
open Go.Proofs
def mZ:Sig:=.of [J7] [J3,J3] (fun a=>YI N a)
def uS (N:Nat):Ju 89 (mZ N):=Jw (Jv [(159,xP N)] []) ⟨[],[]⟩ Tryz.f89 N (Jt ⟨Af7 N,trivial⟩)
def AlJ:List (Nat×Nrm):=[(3,⟨[8],[],[],[],[]⟩),(46,⟨[4,7,8,9],[],[],[],[]⟩)]
def An6:Lk:=⟨[],[(46,⟨[(4,.i),(7,.i),(8,.c x64),(9,.c x64)],[]⟩,[(0,⟨[(8,.c x64)],[]⟩)])]⟩
def Adj:Sig:=.of [J7] [J3,J3] (fun a=>jI N a)
def Ai2 (N:Nat):Ju 156 (Adj N):=Jw (Jv [(211,Af2 N)] AlJ) An6 Tryz.f156 N (Jt ⟨Akv N,trivial⟩)
def Abj:List (Nat×Nrm):=[(3,⟨[],[],[],[],[]⟩),(18,⟨[0,1,12,13],[],[],[],[]⟩)]
def Ac8:Lk:=⟨[],[(18,⟨[(0,.i),(1,.i),(12,.i),(13,.c x64)],[]⟩,[(0,⟨[],[]⟩)])]⟩
def Ri:Sig:=.of [.cell false (.sl 70 Tq2),.cell false (.sl 70 Tq2)] [JM] (fun a=>MI N a.1 a.2)
def SY (N:Nat):Ju 96 (Ri N):=Jw (Jv [(165,Z7 N)] Abj) Ac8 Tryz.f96 N (Jt ⟨fE N,trivial⟩)
def zN:List (Nat×Nrm):=[(3,⟨[],[],[],[],[]⟩),(18,⟨[0,1,12,13],[],[],[],[]⟩)]
def Abh:Lk:=⟨[],[(18,⟨[(0,.i),(1,.i),(12,.i),(13,.c x64)],[]⟩,[(0,⟨[],[]⟩)])]⟩
def UW:Sig:=.of [.cell false (.sl 70 Tq2),.cell false (.sl 70 Tq2)] [JM] (fun a=>LC N a.1 a.2)
def X0 (N:Nat):Ju 42 (UW N):=Jw (Jv [(100,Yx N)] zN) Abh Tryz.f42 N (Jt ⟨dJ N,trivial⟩)
open Go.Proofs
def Ar7:List (Nat×Nrm):=[(3,⟨[4],[([4],76,Tq5,1004096)],[],[(1000000,1004096)],[]⟩),(10,⟨[0,4],[([4],76,Tq5,1000000)],[],[(38400,1000000)],[]⟩)]
def Auz:Lk:=⟨[],[(10,⟨[(0,.c xs),(4,.c (xo 1000000))],[(1000000,.arr 76 false Tq5)]⟩,[(0,⟨[(4,.c (xo 1004096))],[(1004096,.arr 76 false Tq5)]⟩)])]⟩
def TQ:Sig:=.of [J7] [.cell false (.sl 76 Tq5),J3] (fun a=>QN N a)
def QO (N:Nat):Ju 225 (TQ N):=Jw (Jv [(207,pX N)] Ar7) Auz Tryz.f225 N (Jt ⟨nH N,trivial⟩)
def An0:List (Nat×Nrm):=[(3,⟨[8],[],[],[],[]⟩),(46,⟨[4,8,35,36],[],[],[],[]⟩)]
def Aqc:Lk:=⟨[],[(46,⟨[(4,.i),(8,.c x64),(35,.i),(36,.c x64)],[]⟩,[(0,⟨[(8,.c x64)],[]⟩)])]⟩
def tV:Sig:=.of [J7] [J3,J3] (fun a=>XW N a)
def xK (N:Nat):Ju 178 (tV N):=Jw (Jv [(218,Ah8 N),(219,Akn N)] An0) Aqc Tryz.f178 N (Jt ⟨AlF N,An1 N,trivial⟩)
def WJ:Sig:=.of [fK] [J7,J3] (fun a=>Td N a)
def Xb (N:Nat):Ju 182 (WJ N):=Jw (Jv [(192,Uk N),(221,tC N)] []) ⟨[],[]⟩ Tryz.f182 N (Jt ⟨Vw N,xG N,trivial⟩)
def Zd:Sig:=.of [J7,J3] [Ut,J3] (fun a=>Qi N a.1 a.2)
def Z8 (N:Nat):Ju 85 (Zd N):=Jw (Jv [(32,Wp N)] []) ⟨[],[]⟩ Tryz.f85 N (Jt ⟨UN N,trivial⟩)
def Qr:Sig:=.of [Ut,J3] [AzK,J3] (fun a=>MH N a.1 a.2)
def Pn (N:Nat):Ju 153 (Qr N):=Jw (Jv [(34,Xw N)] []) ⟨[],[]⟩ Tryz.f153 N (Jt ⟨WR N,trivial⟩)
def Adt:Sig:=.of [AhD,J3] [J3,J3] (fun a=>Wq N a.1 a.2)
def AiH (N:Nat):Ju 83 (Adt N):=Jw (Jv [(154,NI N),(89,mZ N)] []) ⟨[],[]⟩ Tryz.f83 N (Jt ⟨NC N,uS N,trivial⟩)
def uP:Sig:=.of [J7] [J3,J3] (fun a=>Yc N a)
def y8 (N:Nat):Ju 86 (uP N):=Jw (Jv [(156,Adj N)] []) ⟨[],[]⟩ Tryz.f86 N (Jt ⟨Ai2 N,trivial⟩)
def Af4:List (Nat×Nrm):=[(3,⟨[0,4,6],[],[],[],[]⟩),(18,⟨[0,4,5,6,7,8],[],[],[],[]⟩),(69,⟨[0,4,6,7,8],[],[],[],[]⟩)]
def AgZ:Lk:=⟨[(69,⟨[(0,.i),(4,.c xs),(6,.i),(7,.c x64),(8,.i)],[]⟩)],[(18,⟨[(0,.i),(4,.c xs),(5,.c x64),(6,.c xb),(7,.c x64),(8,.c x64)],[]⟩,[(0,⟨[(0,.i),(4,.c xs),(6,.c xb)],[]⟩)])]⟩
def Un:Sig:=.of [J7] [J7,J3] (fun a=>Pg N a)
def V8 (N:Nat):Ju 157 (Un N):=Jw (Jv [(146,zJ N),(37,Oy N)] Af4) AgZ Tryz.f157 N (Jt ⟨AaX N,Ol N,trivial⟩)
open Go.Proofs
def iJ:Sig:=.of [aK] [Sq5] (fun a=>UH N a)
def nP (N:Nat):Ju 29 (iJ N):=Jw (Jv [(9,La N),(66,zB N)] []) ⟨[],[]⟩ Tryz.f29 N (Jt ⟨KW N,AaO N,trivial⟩)
def Ah1:Sig:=.of [aK] [Sq5] (fun a=>ZQ N a)
def Al3 (N:Nat):Ju 67 (Ah1 N):=Jw (Jv [(9,La N),(66,zB N)] []) ⟨[],[]⟩ Tryz.f67 N (Jt ⟨KW N,AaO N,trivial⟩)
def Al5:List (Nat×Nrm):=[(3,⟨[5,9],[],[],[],[]⟩),(46,⟨[0,5,8,9,10,52,53,54],[],[],[],[]⟩)]
def Anq:Lk:=⟨[],[(46,⟨[(0,.c AQ),(5,.c AV),(8,.i),(9,.c xs),(10,.i),(52,.i),(53,.i),(54,.c x64)],[(0,.box Bz),(34048,.box [x64,xs,xs])]⟩,[(0,⟨[(5,.c AV),(9,.c xs)],[(0,.box Bz),(34048,.box [x64,xs,xs])]⟩)])]⟩
def iK (N n:Nat):Sig:=.of [aK,.cell false .str] [.cell false .str] (fun a=>Y7 N n a.1 a.2)
def nR (N:Nat): ∀ n,Spec Tryz.prog 11 (iK N n)
 | 0=>y9 (C:=ctx Tryz.prog [] []) (fn:=Tryz.f11) (Jt (gs:=[]) trivial) (by kernel_rfl) (by kernel_rfl)
 | n+1=>OG (C:=ctx Tryz.prog ((11,iK N n)::[(32,Wp N),(33,xC N),(34,Xw N),(9,La N),(20,MJ N)]) Al5) (L:=Anq) (fn:=Tryz.f11) (N:=N) (Jt ⟨nR N n,⟨UN N,Afp N,WR N,KW N,L9 N,trivial⟩⟩)
def Ade:Sig:=iK N N
def Aio (N:Nat):Spec Tryz.prog 11 (Ade N):=nR N N
def Xg:Sig:=.of [J7,J3] [Ut,J3] (fun a=>UC N a.1 a.2)
def UD (N:Nat):Ju 177 (Xg N):=Jw (Jv [(148,lG N)] []) ⟨[],[]⟩ Tryz.f177 N (Jt ⟨eX N,trivial⟩)
def XJ (N:Nat):Alt:=.of [.cell false .str] [fK,.cell false (.int .i64)] [.cell false .ptr,.cell false (.int .i64)] (fun a=>RX N a)
def rM (N:Nat):Spec Tryz.prog 214 (XJ N).1/\Spec Tryz.prog 214 (XJ N).2.1:=oI (C:=ctx Tryz.prog [(225,TQ N)] []) (L:=⟨[],[]⟩) (fn:=Tryz.f214) (N:=N) (Jt ⟨QO N,trivial⟩) (by kernel_rfl) (by kernel_rfl) (fun a=>by kernel_rfl)
def rQ:List (Nat×Nrm):=[(85,⟨[2,4,5,7],[],[],[],[]⟩)]
def vP:Lk:=⟨[(85,⟨[(2,.c AB),(4,.c AP),(5,.i),(7,.i)],[(33280,.box [AA,Az,AA]),(33792,.box [AA,Az,AA])]⟩)],[]⟩
def Yl:Sig:=.of [Ut] [Asu,J3] (fun a=>Q7 N a)
def lT (N:Nat):Ju 296 (Yl N):=Jw (Jv [(225,TQ N),(221,tC N)] rQ) vP Tryz.f296 N (Jt ⟨QO N,xG N,trivial⟩)
def X6:Sig:=.of [J7] [AzK,J3] (fun a=>Pv N a)
def WU (N:Nat):Ju 81 (X6 N):=Jw (Jv [(85,Zd N),(153,Qr N)] []) ⟨[],[]⟩ Tryz.f81 N (Jt ⟨Z8 N,Pn N,trivial⟩)
def AcH:List (Nat×Nrm):=[(3,⟨[4],[([4],9,Aq,1004096)],[],[(1000000,1004096)],[]⟩),(14,⟨[4,9,10,11],[([4],9,Aq,1000000)],[],[(40448,1000000)],[]⟩)]
def Aeh:Lk:=⟨[],[(14,⟨[(4,.c (xo 1000000)),(9,.i),(10,.i),(11,.c x64)],[(1000000,.arr 9 false Aq)]⟩,[(0,⟨[(4,.c (xo 1004096))],[(1004096,.arr 9 false Aq)]⟩)])]⟩
def fH:Sig:=.of [.cell false (.sl 76 Tq5)] [Sq2,J3] (fun a=>Uo N a)
def zU (N:Nat):Ju 87 (fH N):=Jw (Jv [(157,Un N)] AcH) Aeh Tryz.f87 N (Jt ⟨V8 N,trivial⟩)
open Go.Proofs
def AeD:Sig:=.of [.box [(false,.bool)],Sq7] [J7] (fun a=>Zn N a.1 a.2)
def Aa5 (N:Nat):Ju 105 (AeD N):=Jw (Jv [(176,dA N),(175,MN N),(174,Mc N)] []) ⟨[],[]⟩ Tryz.f105 N (Jt ⟨kU N,MF N,LP N,trivial⟩)
def Anw:List (Nat×Nrm):=[(3,⟨[5],[],[],[(37888,1004096),(1000000,1004096)],[]⟩),(26,⟨[5,22,23,24],[],[],[(37888,1000000),(40448,1000000)],[]⟩)]
def ApT:Lk:=⟨[],[(26,⟨[(5,.c (xo 1000000)),(22,.i),(23,.i),(24,.c x64)],[(1000000,.arr 5 true Aw)]⟩,[(0,⟨[(5,.c (xo 1004096))],[(1004096,.arr 5 true Aw)]⟩)])]⟩
def tH:Sig:=.of [J7] [J7,J3] (fun a=>Acv N a)
def xH (N:Nat):Ju 220 (tH N):=Jw (Jv [(147,Acw N),(248,Am7 N)] Anw) ApT Tryz.f220 N (Jt ⟨Adg N,ApV N,trivial⟩)
def AbI:Sig:=.of [.box [(false,.bool)],Sq7] [J7] (fun a=>Xe N a.1 a.2)
def vO (N:Nat):Ju 129 (AbI N):=Jw (Jv [(174,Mc N)] []) ⟨[],[]⟩ Tryz.f129 N (Jt ⟨LP N,trivial⟩)
def AfT:List (Nat×Nrm):=[(3,⟨[],[],[],[],[]⟩),(11,⟨[0,12,13,14],[],[],[],[]⟩),(18,⟨[0,12,13,14],[],[],[],[]⟩),(38,⟨[0,5,6,7,12,13,14],[],[],[],[]⟩)]
def Ahi:Lk:=⟨[],[(18,⟨[(0,.i),(12,.i),(13,.i),(14,.c x64)],[]⟩,[(0,⟨[],[]⟩)]),(38,⟨[(0,.i),(5,.i),(6,.i),(7,.c x64),(12,.i),(13,.i),(14,.i)],[]⟩,[(2,⟨[(0,.i),(12,.i),(13,.i),(14,.i)],[]⟩)])]⟩
def nZ:Sig:=.of [Sq2,J3] [J3] (fun a=>TL N a.1 a.2)
def AcE (N:Nat):Ju 47 (nZ N):=Jw (Jv [(37,Oy N)] AfT) Ahi Tryz.f47 N (Jt ⟨Ol N,trivial⟩)
def zT:List (Nat×Nrm):=[(3,⟨[],[],[],[],[]⟩),(11,⟨[0,9,10,11],[],[],[],[]⟩),(18,⟨[0,9,10,11],[],[],[],[]⟩),(38,⟨[0,3,4,5,9,10,11],[],[],[],[]⟩)]
def Abq:Lk:=⟨[],[(18,⟨[(0,.i),(9,.i),(10,.i),(11,.c x64)],[]⟩,[(0,⟨[],[]⟩)]),(38,⟨[(0,.i),(3,.i),(4,.c AP),(5,.c x64),(9,.i),(10,.i),(11,.i)],[(33792,.box [xs,xs])]⟩,[(2,⟨[(0,.i),(9,.i),(10,.i),(11,.i)],[]⟩)])]⟩
def aA:Sig:=.of [Sq3] [J3] (fun a=>SQ N a)
def uN (N:Nat):Ju 48 (aA N):=Jw (Jv [(37,Oy N)] zT) Abq Tryz.f48 N (Jt ⟨Ol N,trivial⟩)
def uI:List (Nat×Nrm):=[(3,⟨[],[],[],[],[]⟩),(10,⟨[0,6,7,8],[],[],[],[]⟩),(11,⟨[0,6,7,8],[],[],[],[]⟩),(46,⟨[0,3,4,5,6,7,8],[],[],[],[]⟩)]
def vV:Lk:=⟨[],[(10,⟨[(0,.i),(6,.i),(7,.i),(8,.c x64)],[]⟩,[(0,⟨[],[]⟩)]),(46,⟨[(0,.i),(3,.i),(4,.c AP),(5,.c x64),(6,.i),(7,.i),(8,.i)],[(33792,.box [xs,x64,xs])]⟩,[(2,⟨[(0,.i),(6,.i),(7,.i),(8,.i)],[]⟩)])]⟩
def Yn:Sig:=.of [.cell false (.sl 167 Tq1)] [J3] (fun a=>MR N a)
def mX (N:Nat):Ju 201 (Yn N):=Jw (Jv [(37,Oy N),(234,nV N)] uI) vV Tryz.f201 N (Jt ⟨Ol N,Ac6 N,trivial⟩)
def AlR:List (Nat×Nrm):=[(3,⟨[0,5],[],[],[],[]⟩),(11,⟨[0,5],[],[],[],[]⟩),(18,⟨[0,5],[],[],[],[]⟩),(38,⟨[0,5,6],[],[],[],[]⟩)]
def AnK:Lk:=⟨[],[(18,⟨[(0,.i),(5,.c x64)],[]⟩,[(0,⟨[(0,.i),(5,.c x64)],[]⟩)]),(38,⟨[(0,.i),(5,.i),(6,.c x64)],[]⟩,[(2,⟨[(0,.i),(5,.i)],[]⟩)])]⟩
def Ado:Sig:=.of [J7] [J7,J7,JM] (fun a=>jL N a)
def AiC (N:Nat):Ju 232 (Ado N):=Jw (Jv [(231,YC N),(253,YZ N),(254,mO N)] AlR [] [] [] [24,27,28,33,34,41,42,46,47,53,64,70,71,76,82,83]) AnK Tryz.f232 N (Jt ⟨XZ N,Z5 N,tX N,trivial⟩)
def AfD:Sig:=.of [J7] [JM] (fun a=>dI N a)
def Aky (N:Nat):Ju 197 (AfD N):=Jw (Jv [(231,YC N)] []) ⟨[],[]⟩ Tryz.f197 N (Jt ⟨XZ N,trivial⟩)
open Go.Proofs
def WL:Sig:=.of [.box [(false,.bool)],J7] [J7] (fun a=>VP N a.1 a.2)
def Xc (N:Nat):Ju 179 (WL N):=Jw (Jv [(220,tH N),(175,MN N),(174,Mc N)] []) ⟨[],[]⟩ Tryz.f179 N (Jt ⟨xH N,MF N,LP N,trivial⟩)
def AbH:List (Nat×Nrm):=[(3,⟨[0,5],[],[],[],[]⟩),(14,⟨[0,5,13,14,15],[],[],[],[]⟩)]
def Ad9:Lk:=⟨[],[(14,⟨[(0,.c AQ),(5,.c (xo 34816)),(13,.c (xo 36096)),(14,.i),(15,.c x64)],[(0,.box [xb]),(34816,.arr 9 false Aq),(36096,.arr 3 false Au)]⟩,[(0,⟨[(0,.c AQ),(5,.c (xo 34816))],[(0,.box [xb]),(34816,.arr 9 false Aq)]⟩)])]⟩
def AdA:Sig:=.of [.box [(false,.bool)],Sq7] [J7] (fun a=>Yq N a.1 a.2)
def yL (N:Nat):Ju 117 (AdA N):=Jw (Jv [(186,Yw N),(174,Mc N),(167,Nh N)] AbH) Ad9 Tryz.f117 N (Jt ⟨dB N,LP N,ML N,trivial⟩)
def AbG:Sig:=.of [.box [(false,.bool)],Sq7] [J7] (fun a=>Xd N a.1 a.2)
def vN (N:Nat):Ju 120 (AbG N):=Jw (Jv [(166,Zp N)] []) ⟨[],[]⟩ Tryz.f120 N (Jt ⟨fC N,trivial⟩)
def Ym:Sig:=.of [Asu] [J7,J3] (fun a=>ZK N a)
def lU (N:Nat):Ju 272 (Ym N):=Jw (Jv [(220,tH N),(217,VK N)] []) ⟨[],[]⟩ Tryz.f272 N (Jt ⟨xH N,Tm N,trivial⟩)
def yK:Sig:=.of [.box [(false,.bool)],Sq7] [J7] (fun a=>Vt N a.1 a.2)
def oN (N:Nat):Ju 132 (yK N):=Jw (Jv [(174,Mc N),(167,Nh N)] []) ⟨[],[]⟩ Tryz.f132 N (Jt ⟨LP N,ML N,trivial⟩)
def AfE:List (Nat×Nrm):=[(3,⟨[],[],[],[],[]⟩),(18,⟨[11,12,13],[],[],[],[]⟩)]
def Ahd:Lk:=⟨[],[(18,⟨[(11,.i),(12,.i),(13,.c x64)],[]⟩,[(0,⟨[],[]⟩)])]⟩
def QT:Sig:=.of [Sq4] [J3] (fun a=>Nz N a)
def Rf (N:Nat):Ju 141 (QT N):=Jw (Jv [(201,Yn N)] AfE) Ahd Tryz.f141 N (Jt ⟨mX N,trivial⟩)
def uG:Sig:=.of [J7] [JM] (fun a=>Ya N a)
def xW (N:Nat):Ju 196 (uG N):=Jw (Jv [(232,Ado N)] []) ⟨[],[]⟩ Tryz.f196 N (Jt ⟨AiC N,trivial⟩)
def AdZ:List (Nat×Nrm):=[(3,⟨[3],[([3],9,Aq,1004096)],[],[(1000000,1004096)],[]⟩),(14,⟨[3,6,7,8],[([3],9,Aq,1000000)],[],[(39168,1000000)],[]⟩)]
def AfL:Lk:=⟨[],[(14,⟨[(3,.c (xo 1000000)),(6,.i),(7,.i),(8,.c x64)],[(1000000,.arr 9 false Aq)]⟩,[(0,⟨[(3,.c (xo 1004096))],[(1004096,.arr 9 false Aq)]⟩)])]⟩
def kZ:Sig:=.of [.cell false (.sl 167 Tq1)] [Sq2] (fun a=>VE N a)
def Abk (N:Nat):Ju 203 (kZ N):=Jw (Jv [(22,zO N),(20,MJ N)] AdZ) AfL Tryz.f203 N (Jt ⟨Abi N,L9 N,trivial⟩)
open Go.Proofs
def dO:Sig:=.of [Sq6,Sq6] [JM] (fun a=>Qu N a.1 a.2)
def vZ (N:Nat):Ju 97 (dO N):=Jw (Jv [(96,Ri N)] []) ⟨[],[]⟩ Tryz.f97 N (Jt ⟨SY N,trivial⟩)
def Aee:List (Nat×Nrm):=[(3,⟨[],[],[],[],[]⟩),(18,⟨[0,1,12,13],[],[],[],[]⟩)]
def AfQ:Lk:=⟨[],[(18,⟨[(0,.i),(1,.i),(12,.i),(13,.c x64)],[]⟩,[(0,⟨[],[]⟩)])]⟩
def X3:Sig:=.of [.cell false (.sl 117 Tq3),.cell false (.sl 117 Tq3)] [JM] (fun a=>NJ N a.1 a.2)
def ZZ (N:Nat):Ju 98 (X3 N):=Jw (Jv [(96,Ri N),(165,Z7 N)] Aee [] [] [] [28,40,41,53,54,67]) AfQ Tryz.f98 N (Jt ⟨SY N,fE N,trivial⟩)
open Go.Proofs
def nY:Sig:=.of [Ut] [Asu,J3] (fun a=>WS N a)
def Ac9 (N:Nat):Ju 245 (nY N):=Jw (Jv [(153,Qr N),(158,PR N),(157,Un N),(84,MZ N)] []) ⟨[],[]⟩ Tryz.f245 N (Jt ⟨Pn N,Qg N,V8 N,MQ N,trivial⟩)
def dR:Sig:=.of [AhD,J3] [J3,J3] (fun a=>Qv N a.1 a.2)
def wF (N:Nat):Ju 163 (dR N):=Jw (Jv [(154,NI N),(86,uP N)] []) ⟨[],[]⟩ Tryz.f163 N (Jt ⟨NC N,y8 N,trivial⟩)
def uM:Sig:=.of [Sq7,Sq7] [JM] (fun a=>Yb N a.1 a.2)
def Aed (N:Nat):Ju 41 (uM N):=Jw (Jv [(94,fF N),(95,dS N),(96,Ri N),(97,dO N),(98,X3 N),(99,YH N)] [] [] [] [] [10,16,17,23,24,30,31,37,38,44,45,51,52,58,59,65,66,72,73,79,80,86,87,93,94,100,101,107,108,114,115,121,122,128]) ⟨[],[]⟩ Tryz.f41 N (Jt ⟨zS N,wG N,SY N,vZ N,ZZ N,pO N,trivial⟩)
def Acm:List (Nat×Nrm):=[(3,⟨[],[],[],[],[]⟩),(18,⟨[0,1,11,12],[],[],[],[]⟩)]
def AdP:Lk:=⟨[],[(18,⟨[(0,.i),(1,.i),(11,.i),(12,.c x64)],[]⟩,[(0,⟨[],[]⟩)])]⟩
def fD:Sig:=.of [.cell false (.sl 117 Tq3),.cell false (.sl 117 Tq3)] [JM] (fun a=>Py N a.1 a.2)
def yZ (N:Nat):Ju 43 (fD N):=Jw (Jv [(98,X3 N),(42,UW N),(100,Yx N)] Acm) AdP Tryz.f43 N (Jt ⟨ZZ N,X0 N,dJ N,trivial⟩)
open Go.Proofs
def AnP:List (Nat×Nrm):=[(3,⟨[8],[([8],31,(.sl 9 Aq .nil),1012288)],[],[(1000000,1012288)],[]⟩),(11,⟨[1,8,11,13,32,33,34],[([13],9,Aq,1008192),([8],31,(.sl 9 Aq .nil),1008208)],[],[(1004096,1008192),(1004112,1008208)],[]⟩),(34,⟨[1,8,32,33,34],[([8],31,(.sl 9 Aq .nil),1000000)],[],[(52736,1000000)],[]⟩),(62,⟨[1,8,11,13,14,32,33,34],[([13],9,Aq,1004096),([8],31,(.sl 9 Aq .nil),1004112)],[],[(50688,1004096),(1000000,1004112)],[]⟩)]
def Aqt:Lk:=⟨[],[(34,⟨[(1,.i),(8,.c (xo 1000000)),(32,.i),(33,.i),(34,.c x64)],[(1000000,.arr 31 false (.sl 9 Aq .nil))]⟩,[(0,⟨[(8,.c (xo 1012288))],[(1012288,.arr 31 false (.sl 9 Aq .nil))]⟩)]),(62,⟨[(1,.i),(8,.c (xo 1004112)),(11,.c (.c (.ptr 35584 0))),(13,.c (xo 1004096)),(14,.c x64),(32,.i),(33,.i),(34,.i)],[(35584,.box [Bl,x64]),(1004096,.arr 9 false Aq),(1004112,.arr 31 false (.sl 9 Aq .nil))]⟩,[(2,⟨[(1,.i),(8,.c (xo 1008208)),(11,.c (.c (.ptr 35584 0))),(13,.c (xo 1008192)),(32,.i),(33,.i),(34,.i)],[(35584,.box [Bl,x64]),(1008192,.arr 9 false Aq),(1008208,.arr 31 false (.sl 9 Aq .nil))]⟩)])]⟩
def AfW:Sig:=.of [J7,J3] [A1k,J3] (fun a=>VH N a.1 a.2)
def Ak1 (N:Nat):Ju 88 (AfW N):=Jw (Jv [(81,X6 N),(153,Qr N),(158,PR N),(157,Un N),(84,MZ N)] AnP) Aqt Tryz.f88 N (Jt ⟨WU N,Pn N,Qg N,V8 N,MQ N,trivial⟩)
def AdV:List (Nat×Nrm):=[(3,⟨[2,4,8],[],[],[(34917,1012288),(1000000,1012288)],[]⟩),(11,⟨[2,4,8,13,40,41,42],[([13],167,Tq1,1008192)],[],[(34917,1008208),(1004096,1008192),(1004112,1008208)],[]⟩),(42,⟨[2,4,8,40,41,42],[],[],[(34917,1000000),(54528,1000000)],[]⟩),(78,⟨[2,4,8,13,40,41,42,61,62,63],[([13],167,Tq1,1004096)],[],[(34917,1004112),(52992,1004096),(1000000,1004112)],[]⟩)]
def AfG:Lk:=⟨[],[(42,⟨[(2,.c AB),(4,.c AP),(8,.c AX),(40,.i),(41,.i),(42,.c x64)],[(33280,.box BG),(33281,.JR 165 false Ar),(33792,.box [(xo 33893)]),(33893,.JR 165 false Ar),(34816,.box [(xo 1000000)]),(1000000,.arr 165 false Ar)]⟩,[(0,⟨[(2,.c AB),(4,.c AP),(8,.c AX)],[(33280,.box BG),(33281,.JR 165 false Ar),(33792,.box [(xo 33893)]),(33893,.JR 165 false Ar),(34816,.box [(xo 1012288)]),(1012288,.arr 165 false Ar)]⟩)]),(78,⟨[(2,.c AB),(4,.c AP),(8,.c AX),(13,.c (xo 1004096)),(40,.i),(41,.i),(42,.i),(61,.i),(62,.i),(63,.c x64)],[(33280,.box BG),(33281,.JR 165 false Ar),(33792,.box [(xo 33893)]),(33893,.JR 165 false Ar),(34816,.box [(xo 1004112)]),(1004096,.arr 167 false Tq1),(1004112,.arr 165 false Ar)]⟩,[(2,⟨[(2,.c AB),(4,.c AP),(8,.c AX),(13,.c (xo 1008192)),(40,.i),(41,.i),(42,.i)],[(33280,.box BG),(33281,.JR 165 false Ar),(33792,.box [(xo 33893)]),(33893,.JR 165 false Ar),(34816,.box [(xo 1008208)]),(1008192,.arr 167 false Tq1),(1008208,.arr 165 false Ar)]⟩)])]⟩
def kX:Sig:=.of [J7] [Sq4,J3] (fun a=>VC N a)
def Abf (N:Nat):Ju 212 (kX N):=Jw (Jv [(32,Wp N),(153,Qr N),(244,nT N),(245,nY N),(141,QT N)] AdV) AfG Tryz.f212 N (Jt ⟨UN N,Pn N,Ac4 N,Ac9 N,Rf N,trivial⟩)
def dP:Sig:=.of [J7] [J7,J3] (fun a=>X4 N a)
def wB (N:Nat):Ju 92 (dP N):=Jw (Jv [(81,X6 N),(158,PR N),(84,MZ N)] []) ⟨[],[]⟩ Tryz.f92 N (Jt ⟨WU N,Qg N,MQ N,trivial⟩)
def Adc:Sig:=.of [Sq7,Sq7] [JM] (fun a=>Y5 N a.1 a.2)
def Aig (N:Nat):Ju 14 (Adc N):=Jw (Jv [(41,uM N),(42,UW N),(43,fD N)] [] [] [] [] [9,16,17,26,27,36]) ⟨[],[]⟩ Tryz.f14 N (Jt ⟨Aed N,X0 N,yZ N,trivial⟩)
open Go.Proofs
def Ad3:List (Nat×Nrm):=[(3,⟨[],[],[],[],[]⟩),(11,⟨[0,13,14,15],[],[],[],[]⟩),(18,⟨[0,13,14,15],[],[],[],[]⟩),(38,⟨[0,6,13,14,15,25,26,27],[],[],[],[]⟩)]
def Ae4:Lk:=⟨[],[(18,⟨[(0,.i),(13,.i),(14,.i),(15,.c x64)],[]⟩,[(0,⟨[],[]⟩)]),(38,⟨[(0,.i),(6,.i),(13,.i),(14,.i),(15,.i),(25,.i),(26,.i),(27,.c x64)],[]⟩,[(2,⟨[(0,.i),(13,.i),(14,.i),(15,.i)],[]⟩)])]⟩
def jZ:Sig:=.of [Sq2,J3] [J3] (fun a=>RN N a.1 a.2)
def Aah (N:Nat):Ju 74 (jZ N):=Jw (Jv [(70,Wn N)] Ad3) Ae4 Tryz.f74 N (Jt ⟨UJ N,trivial⟩)
def qU:List (Nat×Nrm):=[(3,⟨[],[],[],[],[]⟩),(11,⟨[0,10,11,12],[],[],[],[]⟩),(18,⟨[0,10,11,12],[],[],[],[]⟩),(38,⟨[0,4,10,11,12,29,30,31],[],[],[],[]⟩)]
def vF:Lk:=⟨[],[(18,⟨[(0,.i),(10,.i),(11,.i),(12,.c x64)],[]⟩,[(0,⟨[],[]⟩)]),(38,⟨[(0,.i),(4,.c AP),(10,.i),(11,.i),(12,.i),(29,.i),(30,.i),(31,.c x64)],[(33792,.box [xs,xs])]⟩,[(2,⟨[(0,.i),(10,.i),(11,.i),(12,.i)],[]⟩)])]⟩
def Yj:Sig:=.of [Sq3] [J3] (fun a=>Q5 N a)
def lM (N:Nat):Ju 75 (Yj N):=Jw (Jv [(70,Wn N)] qU) vF Tryz.f75 N (Jt ⟨UJ N,trivial⟩)
def Ar6:List (Nat×Nrm):=[(3,⟨[],[],[],[],[]⟩),(10,⟨[0,1,5],[],[],[],[]⟩)]
def Auy:Lk:=⟨[],[(10,⟨[(0,.i),(1,.i),(5,.c x64)],[]⟩,[(0,⟨[],[]⟩)])]⟩
def Ak8:Sig:=.of [J7,.cell false .fn] [JM] (fun a=>Z9 N a.1 a.2)
def AnX (N:Nat):Ju 280 (Ak8 N):=Jw (Jv [] Ar6 [] [(12,Amm N)]) Auy Tryz.f280 N (Jt trivial trivial ⟨AsV N,trivial⟩)
def yU:Sig:=.of [J7] [JM] (fun a=>Xn N a)
def AaG (N:Nat):Ju 239 (yU N):=Jw (Jv [(262,Adw N),(263,Aff N),(260,bH N)] [] [] [] [] [13,17,18,21,22,25]) ⟨[],[]⟩ Tryz.f239 N (Jt ⟨AiN N,Aj9 N,YR N,trivial⟩)
def Ahy:Sig:=.of [J7] [JM] (fun a=>kK N a)
def Alr (N:Nat):Ju 240 (Ahy N):=Jw (Jv [(260,bH N)] []) ⟨[],[]⟩ Tryz.f240 N (Jt ⟨YR N,trivial⟩)
def AaH:Sig:=.of [J7] [JM] (fun a=>Xo N a)
def AgT (N:Nat):Ju 241 (AaH N):=Jw (Jv [(264,fJ N),(260,bH N),(265,XA N)] []) ⟨[],[]⟩ Tryz.f241 N (Jt ⟨zW N,YR N,aG N,trivial⟩)
def zX:Sig:=.of [J7] [J3] (fun a=>lF N a)
def Ab1 (N:Nat):Ju 72 (zX N):=Jw (Jv [(148,lG N),(149,Ago N)] []) ⟨[],[]⟩ Tryz.f72 N (Jt ⟨eX N,AkB N,trivial⟩)
def Ad8:List (Nat×Nrm):=[(17,⟨[0,3,5],[],[],[],[]⟩)]
def AeA:Lk:=⟨[(17,⟨[(0,.c AQ),(3,.c AU),(5,.c xs)],[(0,.box [xb]),(33536,.box Bo)]⟩)],[]⟩
def AeB:Sig:=.of [.box [(false,.bool)],Sq7] [J7] (fun a=>Zl N a.1 a.2)
def Aaw (N:Nat):Ju 102 (AeB N):=Jw (Jv [(166,Zp N),(168,nN N),(167,Nh N)] Ad8) AeA Tryz.f102 N (Jt ⟨fC N,AbS N,ML N,trivial⟩)
open Go.Proofs
def Agk:Sig:=.of [J3,J7] [JM] (fun a=>VJ N a.1 a.2)
def Ak7 (N:Nat):Ju 259 (Agk N):=Jw (Jv [(279,Ak9 N),(280,Ak8 N)] []) ⟨[],[]⟩ Tryz.f259 N (Jt ⟨AnY N,AnX N,trivial⟩)
def wU:Sig:=.of [J7] [JM] (fun a=>VU N a)
def Afb (N:Nat):Ju 238 (wU N):=Jw (Jv [(239,yU N),(261,eF N),(260,bH N)] []) ⟨[],[]⟩ Tryz.f238 N (Jt ⟨AaG N,wH N,YR N,trivial⟩)
def vH:List (Nat×Nrm):=[(3,⟨[],[],[],[],[]⟩),(10,⟨[0,10,11,12],[],[],[],[]⟩),(11,⟨[0,4,10,11,12],[],[],[],[]⟩),(42,⟨[0,4,10,11,12,30,31,32],[],[],[],[]⟩)]
def yE:Lk:=⟨[],[(10,⟨[(0,.i),(10,.i),(11,.i),(12,.c x64)],[]⟩,[(0,⟨[],[]⟩)]),(42,⟨[(0,.i),(4,.c AP),(10,.i),(11,.i),(12,.i),(30,.i),(31,.i),(32,.c x64)],[(33792,.box [xs,xb,xs])]⟩,[(2,⟨[(0,.i),(4,.c AP),(10,.i),(11,.i),(12,.i)],[(33792,.box [xs,xb,xs])]⟩)])]⟩
def Y1:Sig:=.of [.cell false (.sl 42 Tq0)] [J3] (fun a=>OQ N a)
def oL (N:Nat):Ju 79 (Y1 N):=Jw (Jv [(70,Wn N),(71,fV N),(72,zX N)] vH) yE Tryz.f79 N (Jt ⟨UJ N,nK N,Ab1 N,trivial⟩)
def yP:List (Nat×Nrm):=[(3,⟨[0,5],[([5],9,Aq,1004096)],[],[(1000000,1004096)],[]⟩),(14,⟨[0,5,9,10,11],[([5],9,Aq,1000000)],[],[(37888,1000000)],[]⟩)]
def Aa3:Lk:=⟨[],[(14,⟨[(0,.c AQ),(5,.c (xo 1000000)),(9,.i),(10,.i),(11,.c x64)],[(0,.box [xb]),(1000000,.arr 9 false Aq)]⟩,[(0,⟨[(0,.c AQ),(5,.c (xo 1004096))],[(0,.box [xb]),(1004096,.arr 9 false Aq)]⟩)])]⟩
def Aa4:Sig:=.of [.box [(false,.bool)],Sq7] [J7] (fun a=>W9 N a.1 a.2)
def rH (N:Nat):Ju 108 (Aa4 N):=Jw (Jv [(179,WL N),(167,Nh N)] yP) Aa3 Tryz.f108 N (Jt ⟨Xc N,ML N,trivial⟩)
def yO:List (Nat×Nrm):=[(3,⟨[0,5],[([5],9,Aq,1004096)],[],[(1000000,1004096)],[]⟩),(14,⟨[0,5,9,10,11],[([5],9,Aq,1000000)],[],[(38656,1000000)],[]⟩)]
def Aa1:Lk:=⟨[],[(14,⟨[(0,.c AQ),(5,.c (xo 1000000)),(9,.i),(10,.i),(11,.c x64)],[(0,.box [xb]),(1000000,.arr 9 false Aq)]⟩,[(0,⟨[(0,.c AQ),(5,.c (xo 1004096))],[(0,.box [xb]),(1004096,.arr 9 false Aq)]⟩)])]⟩
def Aa2:Sig:=.of [.box [(false,.bool)],Sq7] [J7] (fun a=>Wy N a.1 a.2)
def rG (N:Nat):Ju 111 (Aa2 N):=Jw (Jv [(179,WL N),(167,Nh N)] yO) Aa1 Tryz.f111 N (Jt ⟨Xc N,ML N,trivial⟩)
def yM:List (Nat×Nrm):=[(3,⟨[0,5],[([5],9,Aq,1004096)],[],[(1000000,1004096)],[]⟩),(14,⟨[0,5,9,10,11],[([5],9,Aq,1000000)],[],[(39936,1000000)],[]⟩)]
def Aay:Lk:=⟨[],[(14,⟨[(0,.c AQ),(5,.c (xo 1000000)),(9,.i),(10,.i),(11,.c x64)],[(0,.box [xb]),(1000000,.arr 9 false Aq)]⟩,[(0,⟨[(0,.c AQ),(5,.c (xo 1004096))],[(0,.box [xb]),(1004096,.arr 9 false Aq)]⟩)])]⟩
def Aaz:Sig:=.of [.box [(false,.bool)],Sq7] [J7] (fun a=>Wx N a.1 a.2)
def rF (N:Nat):Ju 114 (Aaz N):=Jw (Jv [(179,WL N),(167,Nh N)] yM) Aay Tryz.f114 N (Jt ⟨Xc N,ML N,trivial⟩)
def uF:Sig:=.of [J7] [JM] (fun a=>UX N a)
def AdY (N:Nat):Ju 195 (uF N):=Jw (Jv [(196,uG N),(231,YC N)] [] [] [] [] [5,8,9,13,17,18,22,23,27,28]) ⟨[],[]⟩ Tryz.f195 N (Jt ⟨xW N,XZ N,trivial⟩)
def AdX:List (Nat×Nrm):=[(3,⟨[5],[],[],[],[]⟩),(26,⟨[5,14,15,16],[],[],[],[]⟩)]
def AfI:Lk:=⟨[],[(26,⟨[(5,.c xs),(14,.i),(15,.i),(16,.c x64)],[]⟩,[(0,⟨[(5,.c xs)],[]⟩)])]⟩
def kY:Sig:=.of [Sq4] [J7,J3] (fun a=>VD N a)
def Abg (N:Nat):Ju 144 (kY N):=Jw (Jv [(141,QT N),(203,kZ N),(202,Adk N),(20,MJ N)] AdX) AfI Tryz.f144 N (Jt ⟨Rf N,Abk N,Ai5 N,L9 N,trivial⟩)
open Go.Proofs
def Aip:List (Nat×Nrm):=[(3,⟨[0,2,3],[],[],[(33637,1004096),(1000000,1004096)],[]⟩),(11,⟨[0,2,3],[],[],[(33638,1012288),(1008192,1012288)],[]⟩),(14,⟨[0,2,3,4],[],[],[(33637,1000000),(37376,1000000)],[]⟩),(30,⟨[0,2,3,5],[],[],[(33638,1008192),(40704,1008192)],[]⟩)]
def AjS:Lk:=⟨[],[(14,⟨[(0,.c AQ),(2,.c AB),(3,.c AU),(4,.c x64)],[(0,.box Bz),(33280,.box BF),(33281,.JR 70 false Tq2),(33282,.JR 70 false Tq2),(33536,.box [(xo 1000000),(xo 33638)]),(33638,.JR 70 false Tq2),(1000000,.arr 70 false Tq2)]⟩,[(0,⟨[(0,.c AQ),(2,.c AB),(3,.c AU)],[(0,.box Bz),(33280,.box BF),(33281,.JR 70 false Tq2),(33282,.JR 70 false Tq2),(33536,.box [(xo 1004096),(xo 33638)]),(33638,.JR 70 false Tq2),(1004096,.arr 70 false Tq2)]⟩)]),(30,⟨[(0,.c AQ),(2,.c AB),(3,.c AU),(5,.c x64)],[(0,.box Bz),(33280,.box BF),(33281,.JR 70 false Tq2),(33282,.JR 70 false Tq2),(33536,.box [(xo 1004096),(xo 1008192)]),(1004096,.arr 70 false Tq2),(1008192,.arr 70 false Tq2)]⟩,[(2,⟨[(0,.c AQ),(2,.c AB),(3,.c AU)],[(0,.box Bz),(33280,.box BF),(33281,.JR 70 false Tq2),(33282,.JR 70 false Tq2),(33536,.box [(xo 1004096),(xo 1012288)]),(1004096,.arr 70 false Tq2),(1012288,.arr 70 false Tq2)]⟩)])]⟩
def xA:Sig:=.of [aK] [Sq6] (fun a=>YW N a)
def Afn (N:Nat):Ju 30 (xA N):=Jw (Jv [(9,La N),(67,Ah1 N)] Aip) AjS Tryz.f30 N (Jt ⟨KW N,Al3 N,trivial⟩)
def Al7:List (Nat×Nrm):=[(3,⟨[3],[([3],117,Tq3,1008192)],[],[(1000000,1008192)],[]⟩),(14,⟨[0,3,4],[([3],117,Tq3,1000000)],[],[(41216,1000000)],[]⟩),(33,⟨[0,3,4,5],[([3],117,Tq3,1004096)],[(some 34048,3,Ar)],[(1000000,1004096)],[]⟩)]
def Anr:Lk:=⟨[(33,⟨[(0,.c AQ),(3,.c (xo 1004096)),(4,.i),(5,.c AV)],[(0,.box Bz),(34048,.box [(xo 36608),x64,xb,Bj]),(36608,.arr 70 false Tq2),(1004096,.arr 117 false Tq3)]⟩)],[(14,⟨[(0,.c AQ),(3,.c (xo 1000000)),(4,.c x64)],[(0,.box Bz),(1000000,.arr 117 false Tq3)]⟩,[(0,⟨[(3,.c (xo 1008192))],[(0,.box Bz),(1008192,.arr 117 false Tq3)]⟩)])]⟩
def Adf:Sig:=.of [aK] [.cell false (.sl 117 Tq3)] (fun a=>Y9 N a)
def Air (N:Nat):Ju 31 (Adf N):=Jw (Jv [(9,La N),(29,iJ N),(68,sN N)] Al7) Anr Tryz.f31 N (Jt ⟨KW N,nP N,AdQ N,trivial⟩)
def XL (N:Nat):Alt:=.of [.cell false .str,.cell false (.int .i64)] [fK,.cell false (.int .i64)] [.cell false .ptr,.cell false (.int .i64)] (fun a=>Vu N a.1 a.2)
def aZ (N:Nat):Spec Tryz.prog 169 (XL N).1/\Spec Tryz.prog 169 (XL N).2.1:=oI (C:=ctx Tryz.prog [(177,Xg N)] [] [(214,XJ N)]) (L:=⟨[],[]⟩) (fn:=Tryz.f169) (N:=N) (Jt ⟨UD N,trivial⟩ ⟨rM N,trivial⟩) (by kernel_rfl) (by kernel_rfl) (fun a=>by kernel_rfl)
def Ae7:Sig:=.of [J7,Yo] [J3] (fun a=>RS N a.1 a.2)
def Aat (N:Nat):Ju 106 (Ae7 N):=Jw (Jv [(177,Xg N),(178,tV N)] []) ⟨[],[]⟩ Tryz.f106 N (Jt ⟨UD N,xK N,trivial⟩)
def PK (N:Nat):Alt:=.of [fK] [fK,.cell false (.int .i64)] [.cell false .ptr,.cell false (.int .i64)] (fun a=>Nq N a)
def UE (N:Nat):Spec Tryz.prog 222 (PK N).1/\Spec Tryz.prog 222 (PK N).2.1:=oI (C:=ctx Tryz.prog [(192,Uk N)] [] [(214,XJ N)]) (L:=⟨[],[]⟩) (fn:=Tryz.f222) (N:=N) (Jt ⟨Vw N,trivial⟩ ⟨rM N,trivial⟩) (by kernel_rfl) (by kernel_rfl) (fun a=>by kernel_rfl)
def AbD:Sig:=.of [J7,Yo] [J3] (fun a=>Qm N a.1 a.2)
def vI (N:Nat):Ju 121 (AbD N):=Jw (Jv [(177,Xg N),(172,Vs N)] []) ⟨[],[]⟩ Tryz.f121 N (Jt ⟨UD N,Wu N,trivial⟩)
def vS:List (Nat×Nrm):=[(3,⟨[6],[([6],167,Tq1,1004096)],[],[(1000000,1004096)],[]⟩),(42,⟨[6,26,27,28],[([6],167,Tq1,1000000)],[],[(43776,1000000)],[]⟩)]
def yR:Lk:=⟨[],[(42,⟨[(6,.c (xo 1000000)),(26,.i),(27,.i),(28,.c x64)],[(1000000,.arr 167 false Tq1)]⟩,[(0,⟨[(6,.c (xo 1004096))],[(1004096,.arr 167 false Tq1)]⟩)])]⟩
def Y2:Sig:=.of [Ut] [.cell false (.sl 167 Tq1),J3] (fun a=>QX N a)
def oU (N:Nat):Ju 274 (Y2 N):=Jw (Jv [(225,TQ N),(295,yA N),(296,Yl N)] vS) yR Tryz.f274 N (Jt ⟨QO N,Agl N,lT N,trivial⟩)
def AbF:Sig:=.of [J7,Yo] [J3] (fun a=>Qn N a.1 a.2)
def vM (N:Nat):Ju 130 (AbF N):=Jw (Jv [(177,Xg N),(191,Zk N)] []) ⟨[],[]⟩ Tryz.f130 N (Jt ⟨UD N,fA N,trivial⟩)
open Go.Proofs
def yQ:List (Nat×Nrm):=[(3,⟨[],[],[],[],[]⟩),(11,⟨[0,13,14,15],[],[],[],[]⟩),(26,⟨[0,13,14,15],[],[],[],[]⟩),(62,⟨[0,4,13,14,15,41,42,43],[],[],[],[]⟩)]
def AaC:Lk:=⟨[],[(26,⟨[(0,.i),(13,.i),(14,.i),(15,.c x64)],[]⟩,[(0,⟨[],[]⟩)]),(62,⟨[(0,.i),(4,.c AP),(13,.i),(14,.i),(15,.i),(41,.i),(42,.i),(43,.c x64)],[(33792,.box [xs,x64,xs])]⟩,[(2,⟨[(0,.i),(13,.i),(14,.i),(15,.i)],[]⟩)])]⟩
def ZJ:Sig:=.of [.cell false (.sl 167 Tq1)] [J3] (fun a=>PL N a)
def rP (N:Nat):Ju 237 (ZJ N):=Jw (Jv [(70,Wn N),(259,Agk N)] yQ) AaC Tryz.f237 N (Jt ⟨UJ N,Ak7 N,trivial⟩)
def kJ:Sig:=.of [J3,J7,JM] [JM] (fun a=>PU N a.1 a.2.1 a.2.2)
def AaE (N:Nat):Ju 210 (kJ N):=Jw (Jv [(238,wU N),(239,yU N),(240,Ahy N),(241,AaH N),(242,Afd N),(243,AaF N)] [] [] [] [] [11,14,15,18,21,22,26,29,30,33,36,37,41,44,45,48,51,52]) ⟨[],[]⟩ Tryz.f210 N (Jt ⟨Afb N,AaG N,Alr N,AgT N,Aj6 N,AgS N,trivial⟩)
def Abc:List (Nat×Nrm):=[(53,⟨[2,5],[],[],[],[]⟩)]
def Ac7:Lk:=⟨[(53,⟨[(2,.c AB),(5,.c xb)],[(33280,.box [x64,xs,Bj])]⟩)],[]⟩
def Ph:Sig:=.of [Sq5,JM] [J3] (fun a=>MX N a.1 a.2)
def P9 (N:Nat):Ju 140 (Ph N):=Jw (Jv [(195,uF N),(196,uG N),(197,AfD N),(198,xX N),(199,Adn N),(200,xU N),(141,QT N)] Abc [] [] [] [11,15,16,19,23,24,28,32,33,36,40,41,45,49,50,53,57,58]) Ac7 Tryz.f140 N (Jt ⟨AdY N,xW N,Aky N,AfK N,AiA N,AfC N,Rf N,trivial⟩)
def ApE:List (Nat×Nrm):=[(3,⟨[2,3],[],[(some 33536,18,Tq0),(some 33536,5,Aq),(some 33536,6,(.str Aq))],[],[]⟩),(14,⟨[0,2,3,4],[],[(some 33536,18,Tq0),(some 33536,5,Aq),(some 33536,6,(.str Aq))],[],[]⟩),(41,⟨[0,2,3,4,13,27],[],[(some 33536,18,Tq0),(some 33536,5,Aq),(some 33536,6,(.str Aq))],[],[]⟩)]
def Arj:Lk:=⟨[(41,⟨[(0,.c AQ),(2,.c AB),(3,.c AU),(4,.i),(13,.i),(27,.c xb)],[(0,.box Bz),(33280,.box Bq),(33285,.JR 9 false Aq),(33286,.JR 9 false Aq),(33287,.JR 58 false (.str Aq)),(33291,.JR 70 false Tq2),(33293,.JR 70 false Tq2),(33294,.JR 70 false Tq2),(33297,.JR 117 false Tq3),(33298,.JR 117 false Tq3),(33299,.JR 42 false Tq0),(33536,.box Bo)]⟩)],[(14,⟨[(0,.c AQ),(2,.c AB),(3,.c AU),(4,.c x64)],[(0,.box Bz),(33280,.box Bq),(33285,.JR 9 false Aq),(33286,.JR 9 false Aq),(33287,.JR 58 false (.str Aq)),(33291,.JR 70 false Tq2),(33293,.JR 70 false Tq2),(33294,.JR 70 false Tq2),(33297,.JR 117 false Tq3),(33298,.JR 117 false Tq3),(33299,.JR 42 false Tq0),(33536,.box Bo)]⟩,[(0,⟨[(2,.c AB),(3,.c AU)],[(0,.box Bz),(33280,.box Bq),(33285,.JR 9 false Aq),(33286,.JR 9 false Aq),(33287,.JR 58 false (.str Aq)),(33291,.JR 70 false Tq2),(33293,.JR 70 false Tq2),(33294,.JR 70 false Tq2),(33297,.JR 117 false Tq3),(33298,.JR 117 false Tq3),(33299,.JR 42 false Tq0),(33536,.box Bo)]⟩)])]⟩
def Ah2:Sig:=.of [aK] [Sq7] (fun a=>wZ N a)
def Al4 (N:Nat):Ju 8 (Ah2 N):=Jw (Jv [(26,uK N),(9,La N),(27,Ah3 N),(28,xB N),(29,iJ N),(30,xA N),(31,Adf N)] ApE) Arj Tryz.f8 N (Jt ⟨xZ N,KW N,Al6 N,Afo N,nP N,Afn N,Air N,trivial⟩)
def Ae5:Sig:=.of [J7,Yo] [J3] (fun a=>RP N a.1 a.2)
def Aam (N:Nat):Ju 103 (Ae5 N):=Jw (Jv [(170,nM N),(171,RY N),(172,Vs N),(173,NU N)] [] [(169,XL N)]) ⟨[],[]⟩ Tryz.f103 N (Jt ⟨AbR N,SL N,Wu N,NQ N,trivial⟩ ⟨aZ N,trivial⟩)
def RG (N:Nat):Alt:=.of [.cell false .str] [fK,.cell false (.int .i64)] [.cell false .ptr,.cell false (.int .i64)] (fun a=>RU N a)
def Vr (N:Nat):Spec Tryz.prog 180 (RG N).1/\Spec Tryz.prog 180 (RG N).2.1:=oI (C:=ctx Tryz.prog [(181,Px N)] [] [(169,XL N)]) (L:=⟨[],[]⟩) (fn:=Tryz.f180) (N:=N) (Jt ⟨OW N,trivial⟩ ⟨aZ N,trivial⟩) (by kernel_rfl) (by kernel_rfl) (fun a=>by kernel_rfl)
def yG:Sig:=.of [J7,Yo] [J3] (fun a=>OT N a.1 a.2)
def oM (N:Nat):Ju 133 (yG N):=Jw (Jv [(192,Uk N),(191,Zk N),(173,NU N)] [] [(169,XL N)]) ⟨[],[]⟩ Tryz.f133 N (Jt ⟨Vw N,fA N,NQ N,trivial⟩ ⟨aZ N,trivial⟩)
end
end Go.Proofs.YtakmjgnpefmjhaaGreatDoor.Vm
