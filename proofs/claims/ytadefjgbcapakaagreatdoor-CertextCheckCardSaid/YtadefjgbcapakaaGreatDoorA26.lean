/-
  CertextCheck: the law returns true whatever the input; machine, functions, plain law (part 26 of 47.)
-/
import Derived.Test.YtadefjgbcapakaaGreatDoorA22
import Derived.Test.YtadefjgbcapakaaGreatDoorA24
import Derived.Test.YtadefjgbcapakaaGreatDoorA25
set_option linter.unusedVariables false
set_option linter.unusedSimpArgs false
namespace Go.Proofs.YtadefjgbcapakaaGreatDoor.Vm
noncomputable section
open Go.Proofs
def jQ:List (Nat×Nrm):=[(3,⟨[0,3],[],[],[],[]⟩),(11,⟨[5],[([5],5,(.int .u8 .nil),1012288)],[],[(1008192,1012288)],[]⟩),(14,⟨[0,3,4],[],[],[],[]⟩),(34,⟨[0,3,5,18,19],[([5],5,(.int .u8 .nil),1008192)],[],[(41216,1008192)],[]⟩)]
def oK:Lk:=⟨[],[(14,⟨[(0,.i),(3,.c x64),(4,.c x64)],[]⟩,[(0,⟨[(0,.i),(3,.c x64)],[]⟩)]),(34,⟨[(0,.i),(3,.i),(5,.c (xo 1008192)),(18,.i),(19,.c x64)],[(1008192,.arr 5 false (.int .u8 .nil))]⟩,[(2,⟨[(5,.c (xo 1012288))],[(1012288,.arr 5 false (.int .u8 .nil))]⟩)])]⟩
def MQ (N:Nat):Sig:=.of [.cell false (.int .i64)] [.cell false .str] (fun a=>FX N a)
theorem P5 (N:Nat):Spec Tryz.prog 199 (MQ N):=Ac (C:=ctx Tryz.prog [] jQ) (L:=oK) (fn:=Tryz.f199) (N:=N) (Ag trivial)
def SS (N:Nat):Sig:=.of [.cell false .bool] [.cell false .str] (fun a=>VO N a)
theorem Zw (N:Nat):Spec Tryz.prog 233 (SS N):=Ac (C:=ctx Tryz.prog [] []) (L:=⟨[],[]⟩) (fn:=Tryz.f233) (N:=N) (Ag trivial)
def vO:List (Nat×Nrm):=[(3,⟨[0,4],[],[],[],[]⟩),(11,⟨[5],[],[],[],[]⟩),(18,⟨[0,4],[],[],[],[]⟩),(38,⟨[0,5,34,35],[],[],[],[]⟩)]
def zW:Lk:=⟨[],[(18,⟨[(0,.i),(4,.c x64)],[]⟩,[(0,⟨[(0,.i),(4,.c x64)],[]⟩)]),(38,⟨[(0,.i),(5,.c (xo 38912)),(34,.i),(35,.c x64)],[(38912,.arr 5 false (.int .u8 .nil))]⟩,[(2,⟨[(5,.c (xo 38912))],[(38912,.arr 5 false (.int .u8 .nil))]⟩)])]⟩
def Pz (N:Nat):Sig:=.of [.cell false (.int .i64)] [.cell false .str,.cell false (.int .i64)] (fun a=>H8 N a)
theorem RD (N:Nat):Spec Tryz.prog 73 (Pz N):=Ac (C:=ctx Tryz.prog [] vO) (L:=zW) (fn:=Tryz.f73) (N:=N) (Ag trivial)
def AiZ:List (Nat×Nrm):=[(3,⟨[0,1,5],[],[],[],[]⟩),(10,⟨[0,1,5],[],[],[],[]⟩),(11,⟨[0,1],[],[],[(0,1012288),(1008192,1012288)],[]⟩),(22,⟨[0,1,6],[],[],[(0,1008192),(40704,1008192)],[]⟩)]
def Ak8:Lk:=⟨[],[(10,⟨[(0,.c (xo 0)),(1,.i),(5,.c x64)],[(0,.arr 5 true (.int .u8 .nil))]⟩,[(0,⟨[(0,.c (xo 0)),(1,.i),(5,.c x64)],[(0,.arr 5 true (.int .u8 .nil))]⟩)]),(22,⟨[(0,.c (xo 1008192)),(1,.i),(6,.c x64)],[(1008192,.arr 5 true (.int .u8 .nil))]⟩,[(2,⟨[(0,.c (xo 1012288)),(1,.i)],[(1012288,.arr 5 true (.int .u8 .nil))]⟩)])]⟩
def Acs (N:Nat):Sig:=.of [An4,.cell false (.int .i64)] [An4] (fun a=>XZ N a.1 a.2)
theorem Af1 (N:Nat):Spec Tryz.prog 267 (Acs N):=Ac (C:=ctx Tryz.prog [] AiZ) (L:=Ak8) (fn:=Tryz.f267) (N:=N) (Ag trivial)
def aI (N:Nat):Sig:=.of [.cell false (.int .i64)] [.cell false (.int .i64)] (fun a=>WJ N a)
theorem uC (N:Nat):Spec Tryz.prog 165 (aI N):=Ac (C:=ctx Tryz.prog [] []) (L:=⟨[],[]⟩) (fn:=Tryz.f165) (N:=N) (Ag trivial)
def Qk (N:Nat):Sig:=.of [] [Sq2] (fun _=>GG N)
theorem SN (N:Nat):Spec Tryz.prog 19 (Qk N):=Ac (C:=ctx Tryz.prog [] []) (L:=⟨[],[]⟩) (fn:=Tryz.f19) (N:=N) (Ag trivial)
def kT (N:Nat):Sig:=.of [] [An6] (fun _=>ZF N)
theorem Aaj (N:Nat):Spec Tryz.prog 20 (kT N):=Ac (C:=ctx Tryz.prog [] []) (L:=⟨[],[]⟩) (fn:=Tryz.f20) (N:=N) (Ag trivial)
def Cj (N:Nat):Sig:=.of [RV,.cell false (.int .i64)] [.cell false (.int .i64)] (fun a=>Ap N a.1 a.2)
theorem BU (N:Nat):Spec Tryz.prog 33 (Cj N):=Ac (C:=ctx Tryz.prog [] []) (L:=⟨[],[]⟩) (fn:=Tryz.f33) (N:=N) (Ag trivial)
end
noncomputable section
def N9 (N:Nat):Sig:=.of [.cell false (.int .i64)] [.cell false .str] (fun a=>F7 N a)
theorem NY (N:Nat):Spec Tryz.prog 41 (N9 N):=Ac (C:=ctx Tryz.prog [] []) (L:=⟨[],[]⟩) (fn:=Tryz.f41) (N:=N) (Ag trivial)
def UK (N n:Nat):Sig:=.of [.cell false (.int .i64)] [.cell false .str] (fun a=>VQ N n a)
theorem VR (N:Nat): ∀ n,Spec Tryz.prog 227 (UK N n)
  | 0=>lK (C:=ctx Tryz.prog [] []) (fn:=Tryz.f227) (Ag (gs:=[]) trivial) (by kernel_rfl) (by kernel_rfl)
  | n+1=>Ac (C:=ctx Tryz.prog ((227,UK N n)::[]) []) (L:=⟨[],[]⟩) (fn:=Tryz.f227) (N:=N) (Ag ⟨VR N n,trivial⟩)
def qY (N:Nat):Sig:=UK N N
theorem Ab3 (N:Nat):Spec Tryz.prog 227 (qY N):=VR N N
def zB (N:Nat):Sig:=.of [Alf] [RV] (fun a=>uS N a)
theorem Adc (N:Nat):Spec Tryz.prog 12 (zB N):=Ac (C:=ctx Tryz.prog [] []) (L:=⟨[],[]⟩) (fn:=Tryz.f12) (N:=N) (Ag trivial)
def Adx:List (Nat×Nrm):=[(3,⟨[4],[([4],3,(.int .i64 .nil),1012288)],[],[(1000000,1012288)],[]⟩),(11,⟨[0,4,6,8],[([4],3,(.int .i64 .nil),1008192)],[],[(1004096,1008192)],[]⟩),(18,⟨[0,4,5,6],[([4],3,(.int .i64 .nil),1000000)],[],[(53760,1000000)],[]⟩),(58,⟨[0,4,6,7,8,9],[([4],3,(.int .i64 .nil),1004096)],[],[(1000000,1004096)],[]⟩)]
def AfK:Lk:=⟨[],[(18,⟨[(0,.i),(4,.c (xo 1000000)),(5,.c x64),(6,.c x64)],[(1000000,.arr 3 false (.int .i64 .nil))]⟩,[(0,⟨[(4,.c (xo 1012288))],[(1012288,.arr 3 false (.int .i64 .nil))]⟩)]),(58,⟨[(0,.i),(4,.c (xo 1004096)),(6,.i),(7,.i),(8,.c x64),(9,.c x64)],[(1004096,.arr 3 false (.int .i64 .nil))]⟩,[(2,⟨[(0,.i),(4,.c (xo 1008192)),(6,.i),(8,.c x64)],[(1008192,.arr 3 false (.int .i64 .nil))]⟩)])]⟩
def UQ (N:Nat):Sig:=.of [.cell false .str] [Alf,.cell false .bool] (fun a=>LX N a)
theorem VV (N:Nat):Spec Tryz.prog 162 (UQ N):=Ac (C:=ctx Tryz.prog [] Adx [] [] [] [43,47,48,52,56,57,58,62,88,93,94,99,104,105]) (L:=AfK) (fn:=Tryz.f162) (N:=N) (Ag trivial)
def Ad0:List (Nat×Nrm):=[(3,⟨[],[],[],[],[]⟩),(10,⟨[0,3],[],[],[],[]⟩),(15,⟨[0,3,5,6,7],[],[],[],[]⟩),(65,⟨[0,3,4,5,6],[],[],[],[]⟩),(82,⟨[0,3,5,6,7,8],[],[],[],[]⟩)]
def AfM:Lk:=⟨[(65,⟨[(0,.i),(3,.c x64),(4,.i),(5,.c x64),(6,.c x64)],[]⟩)],[(10,⟨[(0,.i),(3,.c x64)],[]⟩,[(0,⟨[],[]⟩)]),(82,⟨[(0,.i),(3,.i),(5,.i),(6,.i),(7,.c x64),(8,.c x64)],[]⟩,[(3,⟨[(0,.i),(3,.i),(5,.i),(6,.i),(7,.c x64)],[]⟩)])]⟩
def jY (N:Nat):Sig:=.of [.cell false .str] [.cell false .bool] (fun a=>P9 N a)
theorem Aad (N:Nat):Spec Tryz.prog 260 (jY N):=Ac (C:=ctx Tryz.prog [] Ad0 [] [] [] [87,90,91,94,97,98]) (L:=AfM) (fn:=Tryz.f260) (N:=N) (Ag trivial)
def NG (N:Nat):Sig:=.of [.cell false (.int .u8)] [.cell false .bool] (fun a=>Gx N a)
theorem Og (N:Nat):Spec Tryz.prog 261 (NG N):=Ac (C:=ctx Tryz.prog [] [] [] [] [] [5,8,9,12,15,16,17,20,23,24]) (L:=⟨[],[]⟩) (fn:=Tryz.f261) (N:=N) (Ag trivial)
def Ab0:List (Nat×Nrm):=[(3,⟨[],[],[],[],[]⟩),(10,⟨[0,1,5],[],[],[],[]⟩)]
def Adp:Lk:=⟨[],[(10,⟨[(0,.i),(1,.i),(5,.c x64)],[]⟩,[(0,⟨[],[]⟩)])]⟩
def S9 (N:Nat):Sig:=.of [.cell false (.int .u8),.cell false .str] [.cell false .bool] (fun a=>IA N a.1 a.2)
theorem UJ (N:Nat):Spec Tryz.prog 262 (S9 N):=Ac (C:=ctx Tryz.prog [] Ab0) (L:=Adp) (fn:=Tryz.f262) (N:=N) (Ag trivial)
def AbA:List (Nat×Nrm):=[(3,⟨[5],[([5],9,(.str .nil),1004096)],[],[(1000000,1004096)],[]⟩),(18,⟨[0,1,5,6,7],[([5],9,(.str .nil),1000000)],[],[(40704,1000000)],[]⟩)]
def Ad4:Lk:=⟨[],[(18,⟨[(0,.i),(1,.i),(5,.c (xo 1000000)),(6,.c x64),(7,.c x64)],[(1000000,.arr 9 false (.str .nil))]⟩,[(0,⟨[(5,.c (xo 1004096))],[(1004096,.arr 9 false (.str .nil))]⟩)])]⟩
def SC (N:Nat):Sig:=.of [.cell false .str,.cell false (.int .u8)] [Sq1] (fun a=>Gz N a.1 a.2)
theorem UU (N:Nat):Spec Tryz.prog 254 (SC N):=Ac (C:=ctx Tryz.prog [] AbA) (L:=Ad4) (fn:=Tryz.f254) (N:=N) (Ag trivial)
end
noncomputable section
def oP:List (Nat×Nrm):=[(3,⟨[0,4],[],[],[],[]⟩),(11,⟨[6],[],[],[],[]⟩),(22,⟨[0,4,5],[],[],[],[]⟩),(50,⟨[0,4,6,7],[],[],[],[]⟩)]
def vV:Lk:=⟨[],[(22,⟨[(0,.i),(4,.c x64),(5,.c x64)],[]⟩,[(0,⟨[(0,.i),(4,.c x64)],[]⟩)]),(50,⟨[(0,.i),(4,.i),(6,.c (xo 40192)),(7,.c x64)],[(40192,.arr 5 false (.int .u8 .nil))]⟩,[(2,⟨[(6,.c (xo 40192))],[(40192,.arr 5 false (.int .u8 .nil))]⟩)])]⟩
def UM (N:Nat):Sig:=.of [.cell false (.int .i64)] [.cell false .str,.cell false (.int .i64)] (fun a=>LW N a)
theorem dP (N:Nat):Spec Tryz.prog 152 (UM N):=Ac (C:=ctx Tryz.prog [] oP) (L:=vV) (fn:=Tryz.f152) (N:=N) (Ag trivial)
def Ab6:List (Nat×Nrm):=[(3,⟨[3],[([3],9,(.str .nil),1012288)],[],[(1000000,1012288)],[]⟩),(11,⟨[3,5,6,10,11,12],[([3],9,(.str .nil),1008192)],[],[(1004096,1008192)],[1008192]⟩),(14,⟨[3,10,11,12],[([3],9,(.str .nil),1000000)],[],[(43008,1000000)],[]⟩),(19,⟨[7],[],[],[],[]⟩),(26,⟨[3,5,6,10,11,12],[([3],9,(.str .nil),1004096)],[],[(1000000,1004096)],[]⟩),(50,⟨[7,42,43,44],[],[],[],[]⟩)]
def Ads:Lk:=⟨[],[(14,⟨[(3,.c (xo 1000000)),(10,.i),(11,.i),(12,.c x64)],[(1000000,.arr 9 false (.str .nil))]⟩,[(0,⟨[(3,.c (xo 1012288))],[(1012288,.arr 9 false (.str .nil))]⟩)]),(26,⟨[(3,.c (xo 1004096)),(5,.i),(6,.c x64),(10,.i),(11,.i),(12,.i)],[(1004096,.arr 9 false (.str .nil))]⟩,[(2,⟨[(3,.c (xo 1008192)),(5,.i),(6,.c x64),(10,.i),(11,.i),(12,.i)],[(1008192,.arr 9 true (.str .nil))]⟩)]),(50,⟨[(7,.c xs),(42,.c (xo 1012288)),(43,.i),(44,.c x64)],[(1012288,.arr 9 false (.str .nil))]⟩,[(4,⟨[(7,.c xs)],[]⟩)])]⟩
def aT (N:Nat):Sig:=.of [Sq1] [.cell false .str] (fun a=>QK N a)
theorem vU (N:Nat):Spec Tryz.prog 240 (aT N):=Ac (C:=ctx Tryz.prog [] Ab6) (L:=Ads) (fn:=Tryz.f240) (N:=N) (Ag trivial)
def RF (N:Nat):Sig:=.of [.cell false .bool] [.cell false .str] (fun a=>UL N a)
theorem Yd (N:Nat):Spec Tryz.prog 149 (RF N):=Ac (C:=ctx Tryz.prog [] []) (L:=⟨[],[]⟩) (fn:=Tryz.f149) (N:=N) (Ag trivial)
def dQ:List (Nat×Nrm):=[(3,⟨[4],[],[],[],[]⟩),(11,⟨[4],[],[(none,4,(.int .u8 .nil))],[],[]⟩),(18,⟨[3,4,5],[([4],5,(.int .u8 .nil),1000000)],[],[(37632,1000000)],[]⟩),(30,⟨[4],[],[(none,4,(.int .u8 .nil))],[],[]⟩)]
def jU:Lk:=⟨[],[(18,⟨[(3,.i),(4,.c (xo 1000000)),(5,.c x64)],[(1000000,.arr 5 false (.int .u8 .nil))]⟩,[(0,⟨[(4,.c (xo 1000000))],[(1000000,.arr 5 false (.int .u8 .nil))]⟩)]),(30,⟨[(4,.c (xl (.int .u8 .nil)))],[]⟩,[(2,⟨[(4,.c (xl (.int .u8 .nil)))],[]⟩)])]⟩
def RG (N:Nat):Sig:=.of [.cell false (.int .i64)] [.cell false .str] (fun a=>Jz N a)
theorem Ye (N:Nat):Spec Tryz.prog 150 (RG N):=Ac (C:=ctx Tryz.prog [] dQ [] [] [] [23,28,33,34,39,44,45,46]) (L:=jU) (fn:=Tryz.f150) (N:=N) (Ag trivial)
def V4:List (Nat×Nrm):=[(3,⟨[],[],[],[],[]⟩),(18,⟨[0,1,12,13],[],[],[],[]⟩)]
def Xa:Lk:=⟨[],[(18,⟨[(0,.i),(1,.i),(12,.i),(13,.c x64)],[]⟩,[(0,⟨[],[]⟩)])]⟩
def IE (N:Nat):Sig:=.of [.cell false (.sl 60 Tq3),.cell false (.sl 60 Tq3)] [.cell false .bool] (fun a=>Cc N a.1 a.2)
theorem KC (N:Nat):Spec Tryz.prog 17 (IE N):=Ac (C:=ctx Tryz.prog [] V4) (L:=Xa) (fn:=Tryz.f17) (N:=N) (Ag trivial)
def pI:List (Nat×Nrm):=[(3,⟨[],[],[],[],[]⟩),(11,⟨[2,3,20,21],[],[],[],[]⟩),(18,⟨[2,3,20,21],[],[],[],[]⟩),(19,⟨[2,3,5,8,20,21,41,42,43],[],[],[],[]⟩),(38,⟨[2,3,5,20,21,41,42,43],[],[],[],[]⟩),(54,⟨[2,3,5,7,8,20,21,41,42,43,51,52,53],[],[],[],[]⟩)]
def wF:Lk:=⟨[],[(18,⟨[(2,.c (.c (.ptr 33280 0))),(3,.c (.c (.ptr 33536 0))),(20,.i),(21,.c x64)],[(33280,.box [(xl (.sl 177 Tq0 .nil))]),(33536,.box [(xl (.sl 177 Tq0 .nil))])]⟩,[(0,⟨[],[]⟩)]),(38,⟨[(2,.c (.c (.ptr 33280 0))),(3,.c (.c (.ptr 33536 0))),(5,.i),(20,.i),(21,.i),(41,.i),(42,.i),(43,.c x64)],[(33280,.box [(xl (.sl 177 Tq0 .nil))]),(33536,.box [(xl (.sl 177 Tq0 .nil))])]⟩,[(2,⟨[(2,.c (.c (.ptr 33280 0))),(3,.c (.c (.ptr 33536 0))),(20,.i),(21,.i)],[(33280,.box [(xl (.sl 177 Tq0 .nil))]),(33536,.box [(xl (.sl 177 Tq0 .nil))])]⟩)]),(54,⟨[(2,.c (.c (.ptr 33280 0))),(3,.c (.c (.ptr 33536 0))),(5,.i),(7,.c (.c (.ptr 34560 0))),(8,.c xb),(20,.i),(21,.i),(41,.i),(42,.i),(43,.i),(51,.i),(52,.i),(53,.c x64)],[(33280,.box [(xl (.sl 177 Tq0 .nil))]),(33536,.box [(xl (.sl 177 Tq0 .nil))]),(34560,.box [xs,x64,xs])]⟩,[(4,⟨[(2,.c (.c (.ptr 33280 0))),(3,.c (.c (.ptr 33536 0))),(5,.i),(8,.c xb),(20,.i),(21,.i),(41,.i),(42,.i),(43,.i)],[(33280,.box [(xl (.sl 177 Tq0 .nil))]),(33536,.box [(xl (.sl 177 Tq0 .nil))])]⟩)])]⟩
def Oh (N:Nat):Sig:=.of [Sq0,Sq0] [.cell false .bool] (fun a=>Jf N a.1 a.2)
theorem Qc (N:Nat):Spec Tryz.prog 108 (Oh N):=Ac (C:=ctx Tryz.prog [] pI) (L:=wF) (fn:=Tryz.f108) (N:=N) (Ag trivial)
def kJ:List (Nat×Nrm):=[(3,⟨[],[],[],[],[]⟩),(11,⟨[2,3,16,17],[],[],[],[]⟩),(18,⟨[2,3,16,17],[],[],[],[]⟩),(38,⟨[2,3,5,16,17,38,39],[],[],[],[]⟩)]
def oZ:Lk:=⟨[],[(18,⟨[(2,.c (.c (.ptr 33280 0))),(3,.c (.c (.ptr 33536 0))),(16,.i),(17,.c x64)],[(33280,.box [(xl (.sl 177 Tq0 .nil))]),(33536,.box [(xl (.sl 177 Tq0 .nil))])]⟩,[(0,⟨[],[]⟩)]),(38,⟨[(2,.c (.c (.ptr 33280 0))),(3,.c (.c (.ptr 33536 0))),(5,.i),(16,.i),(17,.i),(38,.i),(39,.c x64)],[(33280,.box [(xl (.sl 177 Tq0 .nil))]),(33536,.box [(xl (.sl 177 Tq0 .nil))])]⟩,[(2,⟨[(2,.c (.c (.ptr 33280 0))),(3,.c (.c (.ptr 33536 0))),(16,.i),(17,.i)],[(33280,.box [(xl (.sl 177 Tq0 .nil))]),(33536,.box [(xl (.sl 177 Tq0 .nil))])]⟩)])]⟩
def MR (N:Nat):Sig:=.of [Sq0,Sq0] [.cell false .bool] (fun a=>Ii N a.1 a.2)
theorem PE (N:Nat):Spec Tryz.prog 95 (MR N):=Ac (C:=ctx Tryz.prog [] kJ) (L:=oZ) (fn:=Tryz.f95) (N:=N) (Ag trivial)
def ZG:List (Nat×Nrm):=[(3,⟨[],[],[],[],[]⟩),(18,⟨[0,1,12,13],[],[],[],[]⟩)]
def eG:Lk:=⟨[],[(18,⟨[(0,.i),(1,.i),(12,.i),(13,.c x64)],[]⟩,[(0,⟨[],[]⟩)])]⟩
def Qd (N:Nat):Sig:=.of [Sq1,Sq1] [.cell false .bool] (fun a=>Gl N a.1 a.2)
theorem Xc (N:Nat):Spec Tryz.prog 103 (Qd N):=Ac (C:=ctx Tryz.prog [] ZG) (L:=eG) (fn:=Tryz.f103) (N:=N) (Ag trivial)
end
noncomputable section
def Yx:List (Nat×Nrm):=[(3,⟨[],[],[],[],[]⟩),(18,⟨[0,1,12,13],[],[],[],[]⟩)]
def ZL:Lk:=⟨[],[(18,⟨[(0,.i),(1,.i),(12,.i),(13,.c x64)],[]⟩,[(0,⟨[],[]⟩)])]⟩
def PL (N:Nat):Sig:=.of [Sq6,Sq6] [.cell false .bool] (fun a=>Ll N a.1 a.2)
theorem V6 (N:Nat):Spec Tryz.prog 104 (PL N):=Ac (C:=ctx Tryz.prog [] Yx) (L:=ZL) (fn:=Tryz.f104) (N:=N) (Ag trivial)
def VZ (N:Nat):Sig:=.of [] [Sq2] (fun _=>JQ N)
theorem kU (N:Nat):Spec Tryz.prog 20 (VZ N):=Ac (C:=ctx Tryz.prog [] []) (L:=⟨[],[]⟩) (fn:=Tryz.f20) (N:=N) (Ag trivial)
end
noncomputable section
def Ab9:List (Nat×Nrm):=[(3,⟨[],[],[],[],[]⟩),(26,⟨[0,3,4,5],[],[],[],[]⟩)]
def Ad2:Lk:=⟨[],[(26,⟨[(0,.i),(3,.i),(4,.c xb),(5,.c x64)],[]⟩,[(0,⟨[],[]⟩)])]⟩
def aX (N:Nat):Sig:=.of [.cell false .str] [.cell false .bool] (fun a=>Np N a)
theorem wE (N:Nat):Spec Tryz.prog 213 (aX N):=Ac (C:=ctx Tryz.prog [] Ab9 [] [] [] [37,39,40,43,54,55]) (L:=Ad2) (fn:=Tryz.f213) (N:=N) (Ag trivial)
def VW (N:Nat):Sig:=.of [.cell false .str] [.cell false .bool] (fun a=>JO N a)
theorem jZ (N:Nat):Spec Tryz.prog 214 (VW N):=Ac (C:=ctx Tryz.prog [] []) (L:=⟨[],[]⟩) (fn:=Tryz.f214) (N:=N) (Ag trivial)
def bD (N:Nat):Sig:=.of [] [Sq1] (fun _=>QO N)
theorem wL (N:Nat):Spec Tryz.prog 107 (bD N):=Ac (C:=ctx Tryz.prog [] []) (L:=⟨[],[]⟩) (fn:=Tryz.f107) (N:=N) (Ag trivial)
def l9 (N:Nat):Sig:=.of [.cell false (.int .i64)] [.cell false .bool] (fun a=>F8 N a)
theorem Aam (N:Nat):Spec Tryz.prog 59 (l9 N):=Ac (C:=ctx Tryz.prog [] []) (L:=⟨[],[]⟩) (fn:=Tryz.f59) (N:=N) (Ag trivial)
def AbD:List (Nat×Nrm):=[(3,⟨[3],[],[],[],[]⟩),(14,⟨[3,57,58,59],[],[],[],[]⟩)]
def Ad9:Lk:=⟨[],[(14,⟨[(3,.c x64),(57,.c (xo 47360)),(58,.i),(59,.c x64)],[(47360,.arr 4 false (.bool .nil))]⟩,[(0,⟨[(3,.c x64)],[]⟩)])]⟩
def aZ (N:Nat):Sig:=.of [Sq2] [.cell false (.int .i64)] (fun a=>Nr N a)
theorem wI (N:Nat):Spec Tryz.prog 64 (aZ N):=Ac (C:=ctx Tryz.prog [] AbD) (L:=Ad9) (fn:=Tryz.f64) (N:=N) (Ag trivial)
def AdB:List (Nat×Nrm):=[(3,⟨[4],[],[],[],[]⟩),(10,⟨[1,4,8,9,10],[],[],[],[]⟩)]
def AfU:Lk:=⟨[],[(10,⟨[(1,.i),(4,.c (.c (.ptr 33792 0))),(8,.i),(9,.i),(10,.c x64)],[(33792,.box [(.c (.str ([]:Bs))),(.c (.bool false)),(.c (.str ([]:Bs)))])]⟩,[(0,⟨[(4,.c (.c (.ptr 33792 0)))],[(33792,.box [(.c (.str ([]:Bs))),(.c (.bool false)),(.c (.str ([]:Bs)))])]⟩)])]⟩
def kS (N:Nat):Sig:=.of [.cell false (.sl 60 Tq3),.cell false .str] [Ao3,.cell false .bool] (fun a=>TK N a.1 a.2)
theorem Aai (N:Nat):Spec Tryz.prog 66 (kS N):=Ac (C:=ctx Tryz.prog [] AdB) (L:=AfU) (fn:=Tryz.f66) (N:=N) (Ag trivial)
def Adu:List (Nat×Nrm):=[(3,⟨[0,2,5,6,8],[],[],[],[]⟩),(70,⟨[0,2,5,6,8,9],[],[],[],[]⟩),(97,⟨[0,2,5,6,7],[],[],[],[]⟩)]
def AfG:Lk:=⟨[(97,⟨[(0,.i),(2,.c (.c (.ptr 33280 0))),(5,.c (.c (.ptr 34048 0))),(6,.c x64),(7,.c x64)],[(33280,.box [(.c (.int .i64 0)),(.c (.str ([]:Bs))),(.c (.str ([]:Bs)))]),(34048,.box [(.c (.int .i64 0)),(.c (.str ([]:Bs))),(.c (.str ([]:Bs)))])]⟩)],[(70,⟨[(0,.i),(2,.c (.c (.ptr 33280 0))),(5,.c (.c (.ptr 34048 0))),(6,.c x64),(8,.i),(9,.c x64)],[(33280,.box [(.c (.int .i64 0)),(.c (.str ([]:Bs))),(.c (.str ([]:Bs)))]),(34048,.box [(.c (.int .i64 0)),(.c (.str ([]:Bs))),(.c (.str ([]:Bs)))])]⟩,[(0,⟨[(0,.i),(2,.c (.c (.ptr 33280 0))),(5,.c (.c (.ptr 34048 0))),(6,.c x64),(8,.i)],[(33280,.box [(.c (.int .i64 0)),(.c (.str ([]:Bs))),(.c (.str ([]:Bs)))]),(34048,.box [(.c (.int .i64 0)),(.c (.str ([]:Bs))),(.c (.str ([]:Bs)))])]⟩)])]⟩
def UN (N:Nat):Sig:=.of [.cell false .str] [Sq9,.cell false .str,.cell false (.int .i64)] (fun a=>P7 N a)
theorem VT (N:Nat):Spec Tryz.prog 169 (UN N):=Ac (C:=ctx Tryz.prog [] Adu) (L:=AfG) (fn:=Tryz.f169) (N:=N) (Ag trivial)
def Adv:List (Nat×Nrm):=[(3,⟨[0,6],[],[],[],[]⟩),(22,⟨[0,6,22,23,24],[],[],[],[]⟩),(77,⟨[6,10],[],[],[(43008,1008192),(46592,1008192),(49408,1008192),(51456,1008192)],[]⟩)]
def AfI:Lk:=⟨[(77,⟨[(6,.i),(10,.c (xo 1008192))],[(1008192,.arr 5 false (.int .u8 .nil))]⟩)],[(22,⟨[(0,.i),(6,.c xs),(22,.i),(23,.i),(24,.c x64)],[]⟩,[(0,⟨[(0,.i),(6,.c xs)],[]⟩)])]⟩
def UO (N:Nat):Sig:=.of [.cell false (.int .i64),Sq1] [.cell false .str,.cell false (.int .i64)] (fun a=>P8 N a.1 a.2)
theorem VU (N:Nat):Spec Tryz.prog 151 (UO N):=Ac (C:=ctx Tryz.prog [] Adv) (L:=AfI) (fn:=Tryz.f151) (N:=N) (Ag trivial)
end
noncomputable section
def WY:List (Nat×Nrm):=[(3,⟨[],[],[],[],[]⟩),(18,⟨[0,1,12,13],[],[],[],[]⟩)]
def Yl:Lk:=⟨[],[(18,⟨[(0,.i),(1,.i),(12,.i),(13,.c x64)],[]⟩,[(0,⟨[],[]⟩)])]⟩
def Jd (N:Nat):Sig:=.of [.cell false (.sl 80 Tq1),.cell false (.sl 80 Tq1)] [.cell false .bool] (fun a=>CY N a.1 a.2)
theorem Ld (N:Nat):Spec Tryz.prog 68 (Jd N):=Ac (C:=ctx Tryz.prog [(95,MR N)] WY) (L:=Yl) (fn:=Tryz.f68) (N:=N) (Ag ⟨PE N,trivial⟩)
end
noncomputable section
def oG:List (Nat×Nrm):=[(3,⟨[],[],[],[],[]⟩),(11,⟨[12,13,14],[],[],[],[]⟩),(18,⟨[12,13,14],[],[],[],[]⟩),(38,⟨[12,13,14,21,22,23],[],[],[],[]⟩)]
def uV:Lk:=⟨[],[(18,⟨[(12,.i),(13,.i),(14,.c x64)],[]⟩,[(0,⟨[],[]⟩)]),(38,⟨[(12,.i),(13,.i),(14,.i),(21,.i),(22,.i),(23,.c x64)],[]⟩,[(2,⟨[(12,.i),(13,.i),(14,.i)],[]⟩)])]⟩
def NZ (N:Nat):Sig:=.of [Sq0] [.cell false .bool] (fun a=>Ff N a)
theorem Qb (N:Nat):Spec Tryz.prog 69 (NZ N):=Ac (C:=ctx Tryz.prog [] oG) (L:=uV) (fn:=Tryz.f69) (N:=N) (Ag trivial)
def Vx:List (Nat×Nrm):=[(3,⟨[],[],[],[],[]⟩),(18,⟨[8,9,10],[],[],[],[]⟩)]
def WS:Lk:=⟨[],[(18,⟨[(8,.i),(9,.i),(10,.c x64)],[]⟩,[(0,⟨[],[]⟩)])]⟩
def Nc (N:Nat):Sig:=.of [.cell false (.sl 60 Tq3)] [.cell false .bool] (fun a=>E5 N a)
theorem TD (N:Nat):Spec Tryz.prog 31 (Nc N):=Ac (C:=ctx Tryz.prog [] Vx) (L:=WS) (fn:=Tryz.f31) (N:=N) (Ag trivial)
def AgA:List (Nat×Nrm):=[(3,⟨[],[],[],[],[]⟩),(18,⟨[2,13,14,15],[],[],[],[]⟩)]
def AiK:Lk:=⟨[],[(18,⟨[(2,.i),(13,.i),(14,.i),(15,.c x64)],[]⟩,[(0,⟨[],[]⟩)])]⟩
def zA (N:Nat):Sig:=.of [Sq1,.cell false (.int .i64),.cell false (.int .i64)] [.cell false .bool] (fun a=>NW N a.1 a.2.1 a.2.2)
theorem Adb (N:Nat):Spec Tryz.prog 39 (zA N):=Ac (C:=ctx Tryz.prog [] AgA) (L:=AiK) (fn:=Tryz.f39) (N:=N) (Ag trivial)
def AiW:List (Nat×Nrm):=[(3,⟨[3],[],[],[],[]⟩),(22,⟨[0,3,4],[],[],[],[]⟩)]
def Ak6:Lk:=⟨[],[(22,⟨[(0,.i),(3,.c x64),(4,.c x64)],[]⟩,[(0,⟨[(3,.c x64)],[]⟩)])]⟩
def Acr (N:Nat):Sig:=.of [.cell false .str] [.cell false (.int .i64)] (fun a=>XY N a)
theorem Af0 (N:Nat):Spec Tryz.prog 243 (Acr N):=Ac (C:=ctx Tryz.prog [] AiW [] [] [] [7,11,12,16,20,21]) (L:=Ak6) (fn:=Tryz.f243) (N:=N) (Ag trivial)
def zO (N:Nat):Sig:=.of [.cell false (.int .i64),.cell false (.int .i64)] [.cell false .bool] (fun a=>Zu N a.1 a.2)
theorem Adk (N:Nat):Spec Tryz.prog 244 (zO N):=Ac (C:=ctx Tryz.prog [] []) (L:=⟨[],[]⟩) (fn:=Tryz.f244) (N:=N) (Ag trivial)
def bI (N:Nat):Sig:=.of [.cell false (.int .u8)] [.cell false .bool] (fun a=>rE N a)
theorem wS (N:Nat):Spec Tryz.prog 286 (bI N):=Ac (C:=ctx Tryz.prog [] [] [] [] [] [5,8,9,12,15,16,17,20,23,24]) (L:=⟨[],[]⟩) (fn:=Tryz.f286) (N:=N) (Ag trivial)
def AbK (N:Nat):Sig:=.of [.cell false (.int .u8)] [.cell false .bool] (fun a=>Ji N a)
theorem qA (N:Nat):Spec Tryz.prog 288 (AbK N):=Ac (C:=ctx Tryz.prog [] []) (L:=⟨[],[]⟩) (fn:=Tryz.f288) (N:=N) (Ag trivial)
def yF (N:Nat):Sig:=.of [.cell false (.int .i64)] [.cell false (.int .i64)] (fun a=>uD N a)
theorem AcN (N:Nat):Spec Tryz.prog 205 (yF N):=Ac (C:=ctx Tryz.prog [] []) (L:=⟨[],[]⟩) (fn:=Tryz.f205) (N:=N) (Ag trivial)
end
noncomputable section
def Su (N:Nat):Sig:=.of [.cell false (.int .u8)] [.cell false .bool] (fun a=>I5 N a)
theorem Uu (N:Nat):Spec Tryz.prog 299 (Su N):=Ac (C:=ctx Tryz.prog [] [] [] [] [] [5,8,9,12,15,16]) (L:=⟨[],[]⟩) (fn:=Tryz.f299) (N:=N) (Ag trivial)
def Ut (N:Nat):Sig:=.of [.cell false (.int .u8)] [.cell false .bool] (fun a=>Ie N a)
theorem VF (N:Nat):Spec Tryz.prog 300 (Ut N):=Ac (C:=ctx Tryz.prog [] []) (L:=⟨[],[]⟩) (fn:=Tryz.f300) (N:=N) (Ag trivial)
def aJ (N:Nat):Sig:=.of [.cell false .str] [.cell false .str,.cell false .str] (fun a=>QG N a)
theorem uH (N:Nat):Spec Tryz.prog 277 (aJ N):=Ac (C:=ctx Tryz.prog [] []) (L:=⟨[],[]⟩) (fn:=Tryz.f277) (N:=N) (Ag trivial)
def yN (N:Nat):Sig:=.of [.cell false .str,.cell false (.int .i64)] [.cell false .bool] (fun a=>Q5 N a.1 a.2)
theorem AcQ (N:Nat):Spec Tryz.prog 278 (yN N):=Ac (C:=ctx Tryz.prog [] []) (L:=⟨[],[]⟩) (fn:=Tryz.f278) (N:=N) (Ag trivial)
def XJ (N:Nat):Sig:=.of [.cell false .str] [.cell false .bool] (fun a=>KR N a)
theorem o8 (N:Nat):Spec Tryz.prog 250 (XJ N):=Ac (C:=ctx Tryz.prog [] []) (L:=⟨[],[]⟩) (fn:=Tryz.f250) (N:=N) (Ag trivial)
def LC (N:Nat):Sig:=.of [] [.cell false (.sl 92 Tq4)] (fun _=>FD N)
theorem ML (N:Nat):Spec Tryz.prog 44 (LC N):=Ac (C:=ctx Tryz.prog [] []) (L:=⟨[],[]⟩) (fn:=Tryz.f44) (N:=N) (Ag trivial)
def XA (N:Nat):Sig:=.of [.cell false (.int .i64)] [.cell false .bool] (fun a=>Ec N a)
theorem nY (N:Nat):Spec Tryz.prog 53 (XA N):=Ac (C:=ctx Tryz.prog [] []) (L:=⟨[],[]⟩) (fn:=Tryz.f53) (N:=N) (Ag trivial)
def rG (N:Nat):Sig:=.of [.cell false (.int .i64)] [.cell false (.int .i64)] (fun a=>lV N a)
theorem AbN (N:Nat):Spec Tryz.prog 279 (rG N):=Ac (C:=ctx Tryz.prog [] []) (L:=⟨[],[]⟩) (fn:=Tryz.f279) (N:=N) (Ag trivial)
end
noncomputable section
def jD:List (Nat×Nrm):=[(3,⟨[],[],[],[],[]⟩),(18,⟨[8,9,10],[],[],[],[]⟩)]
def oH:Lk:=⟨[],[(18,⟨[(8,.i),(9,.i),(10,.c x64)],[]⟩,[(0,⟨[],[]⟩)])]⟩
def MP (N:Nat):Sig:=.of [.cell false (.sl 80 Tq1)] [.cell false .bool] (fun a=>Dp N a)
theorem Ph (N:Nat):Spec Tryz.prog 40 (MP N):=Ac (C:=ctx Tryz.prog [(69,NZ N)] jD) (L:=oH) (fn:=Tryz.f40) (N:=N) (Ag ⟨Qb N,trivial⟩)
def AgK:List (Nat×Nrm):=[(3,⟨[4],[([4],3,(.int .i64 .nil),1004096)],[],[(1000000,1004096)],[]⟩),(26,⟨[4,18,19,20],[([4],3,(.int .i64 .nil),1000000)],[],[(40704,1000000)],[]⟩)]
def AiX:Lk:=⟨[],[(26,⟨[(4,.c (xo 1000000)),(18,.i),(19,.i),(20,.c x64)],[(1000000,.arr 3 false (.int .i64 .nil))]⟩,[(0,⟨[(4,.c (xo 1004096))],[(1004096,.arr 3 false (.int .i64 .nil))]⟩)])]⟩
def Zt (N:Nat):Sig:=.of [.cell false .str] [Sq3] (fun a=>UG N a)
theorem aQ (N:Nat):Spec Tryz.prog 204 (Zt N):=Ac (C:=ctx Tryz.prog [(242,KG N),(243,Acr N),(244,zO N)] AgK) (L:=AiX) (fn:=Tryz.f204) (N:=N) (Ag ⟨RQ N,Af0 N,Adk N,trivial⟩)
def AbI (N:Nat):Sig:=.of [.cell false (.int .u8)] [.cell false .bool] (fun a=>Jh N a)
theorem pY (N:Nat):Spec Tryz.prog 285 (AbI N):=Ac (C:=ctx Tryz.prog [(286,bI N),(287,Ku N)] []) (L:=⟨[],[]⟩) (fn:=Tryz.f285) (N:=N) (Ag ⟨wS N,Nu N,trivial⟩)
def AcT:List (Nat×Nrm):=[(3,⟨[],[],[],[],[]⟩),(18,⟨[27,28,29],[],[],[],[]⟩)]
def Afa:Lk:=⟨[],[(18,⟨[(27,.c (xo 39680)),(28,.i),(29,.c x64)],[(39680,.arr 5 false (.int .u8 .nil))]⟩,[(0,⟨[],[]⟩)])]⟩
def iQ (N:Nat):Sig:=.of [.cell false .str] [.cell false .bool] (fun a=>TB N a)
theorem yO (N:Nat):Spec Tryz.prog 296 (iQ N):=Ac (C:=ctx Tryz.prog [(299,Su N),(300,Ut N)] AcT [] [] [] [8,12,13,17,18,25]) (L:=Afa) (fn:=Tryz.f296) (N:=N) (Ag ⟨Uu N,VF N,trivial⟩)
def AcW:List (Nat×Nrm):=[(3,⟨[],[],[],[],[]⟩),(18,⟨[32,33,34],[],[],[],[]⟩)]
def Afc:Lk:=⟨[],[(18,⟨[(32,.c (xo 40960)),(33,.i),(34,.c x64)],[(40960,.arr 5 false (.int .u8 .nil))]⟩,[(0,⟨[],[]⟩)])]⟩
def iR (N:Nat):Sig:=.of [.cell false .str] [.cell false .bool] (fun a=>OZ N a)
theorem yP (N:Nat):Spec Tryz.prog 274 (iR N):=Ac (C:=ctx Tryz.prog [(276,Ls N),(299,Su N),(300,Ut N),(287,Ku N)] AcW [] [] [] [9,13,14,18,19,26,27,30]) (L:=Afc) (fn:=Tryz.f274) (N:=N) (Ag ⟨OB N,Uu N,VF N,Nu N,trivial⟩)
def AcP:List (Nat×Nrm):=[(3,⟨[],[],[],[],[]⟩),(26,⟨[3,4,5,6],[],[],[],[]⟩)]
def AeX:Lk:=⟨[],[(26,⟨[(3,.i),(4,.i),(5,.c xb),(6,.c x64)],[]⟩,[(0,⟨[],[]⟩)])]⟩
def iP (N:Nat):Sig:=.of [.cell false .str] [.cell false .bool] (fun a=>OY N a)
theorem yM (N:Nat):Spec Tryz.prog 249 (iP N):=Ac (C:=ctx Tryz.prog [(277,aJ N),(278,yN N)] AcP [] [] [] [32,34,35,38,42,43]) (L:=AeX) (fn:=Tryz.f249) (N:=N) (Ag ⟨uH N,AcQ N,trivial⟩)
def xJ:List (Nat×Nrm):=[(3,⟨[2],[],[],[],[]⟩),(10,⟨[0,2,6,7,8],[],[],[],[]⟩)]
def Aa9:Lk:=⟨[],[(10,⟨[(0,.i),(2,.c (.c (.ptr 33280 0))),(6,.i),(7,.i),(8,.c x64)],[(33280,.box [(.c (.str ([]:Bs))),(.c (.int .i64 0)),(.c (.fn 0)),(.c (.fn 0)),(.c (.fn 0))])]⟩,[(0,⟨[(2,.c (.c (.ptr 33280 0)))],[(33280,.box [(.c (.str ([]:Bs))),(.c (.int .i64 0)),(.c (.fn 0)),(.c (.fn 0)),(.c (.fn 0))])]⟩)])]⟩
def Xt (N:Nat):Sig:=.of [.cell false .str] [Sq8,.cell false .bool] (fun a=>OI N a)
theorem nN (N:Nat):Spec Tryz.prog 159 (Xt N):=Ac (C:=ctx Tryz.prog [(44,LC N)] xJ) (L:=Aa9) (fn:=Tryz.f159) (N:=N) (Ag ⟨ML N,trivial⟩)
def Ahd:List (Nat×Nrm):=[(3,⟨[0,2,5,6,7,8,9],[],[],[],[]⟩),(74,⟨[0,2,5,6,7,8,9,50,51,52],[],[],[],[]⟩),(101,⟨[0,2,5,6,7,8],[],[],[],[]⟩)]
def Ajw:Lk:=⟨[(101,⟨[(0,.i),(2,.c (.c (.ptr 33280 0))),(5,.c (.c (.ptr 34048 0))),(6,.i),(7,.c x64),(8,.c x64)],[(33280,.box [(.c (.int .i64 0)),(.c (.str ([]:Bs))),(.c (.str ([]:Bs)))]),(34048,.box [(.c (.int .i64 0)),(.c (.str ([]:Bs))),(.c (.str ([]:Bs)))])]⟩)],[(74,⟨[(0,.i),(2,.c (.c (.ptr 33280 0))),(5,.c (.c (.ptr 34048 0))),(6,.i),(7,.c x64),(8,.i),(9,.i),(50,.c (xo 45568)),(51,.i),(52,.c x64)],[(33280,.box [(.c (.int .i64 0)),(.c (.str ([]:Bs))),(.c (.str ([]:Bs)))]),(34048,.box [(.c (.int .i64 0)),(.c (.str ([]:Bs))),(.c (.str ([]:Bs)))]),(45568,.arr 5 false (.int .u8 .nil))]⟩,[(0,⟨[(0,.i),(2,.c (.c (.ptr 33280 0))),(5,.c (.c (.ptr 34048 0))),(6,.i),(7,.c x64),(8,.i),(9,.i)],[(33280,.box [(.c (.int .i64 0)),(.c (.str ([]:Bs))),(.c (.str ([]:Bs)))]),(34048,.box [(.c (.int .i64 0)),(.c (.str ([]:Bs))),(.c (.str ([]:Bs)))])]⟩)])]⟩
def aB (N:Nat):Sig:=.of [.cell false .str] [Sq9,.cell false .str,.cell false (.int .i64)] (fun a=>Vh N a)
theorem bJ (N:Nat):Spec Tryz.prog 251 (aB N):=Ac (C:=ctx Tryz.prog [(279,rG N)] Ahd) (L:=Ajw) (fn:=Tryz.f251) (N:=N) (Ag ⟨AbN N,trivial⟩)
end
noncomputable section
def rY (N:Nat):Sig:=.of [Sq2] [.cell false .bool] (fun a=>Ql N a)
theorem bY (N:Nat):Spec Tryz.prog 110 (rY N):=Ac (C:=ctx Tryz.prog [] []) (L:=⟨[],[]⟩) (fn:=Tryz.f110) (N:=N) (Ag trivial)
def sD (N:Nat):Sig:=.of [Sq2] [.cell false .bool] (fun a=>Qm N a)
theorem bZ (N:Nat):Spec Tryz.prog 113 (sD N):=Ac (C:=ctx Tryz.prog [] []) (L:=⟨[],[]⟩) (fn:=Tryz.f113) (N:=N) (Ag trivial)
def sG (N:Nat):Sig:=.of [Sq2] [.cell false .bool] (fun a=>Qn N a)
theorem cO (N:Nat):Spec Tryz.prog 116 (sG N):=Ac (C:=ctx Tryz.prog [] []) (L:=⟨[],[]⟩) (fn:=Tryz.f116) (N:=N) (Ag trivial)
def sJ (N:Nat):Sig:=.of [Sq2] [.cell false .bool] (fun a=>Qo N a)
theorem cZ (N:Nat):Spec Tryz.prog 119 (sJ N):=Ac (C:=ctx Tryz.prog [] []) (L:=⟨[],[]⟩) (fn:=Tryz.f119) (N:=N) (Ag trivial)
def sN (N:Nat):Sig:=.of [Sq2] [.cell false .bool] (fun a=>Qp N a)
theorem dA (N:Nat):Spec Tryz.prog 122 (sN N):=Ac (C:=ctx Tryz.prog [] []) (L:=⟨[],[]⟩) (fn:=Tryz.f122) (N:=N) (Ag trivial)
def sQ (N:Nat):Sig:=.of [Sq2] [.cell false .bool] (fun a=>IU N a)
theorem dB (N:Nat):Spec Tryz.prog 125 (sQ N):=Ac (C:=ctx Tryz.prog [] []) (L:=⟨[],[]⟩) (fn:=Tryz.f125) (N:=N) (Ag trivial)
def sU (N:Nat):Sig:=.of [Sq2] [.cell false .bool] (fun a=>Qq N a)
theorem dD (N:Nat):Spec Tryz.prog 128 (sU N):=Ac (C:=ctx Tryz.prog [] []) (L:=⟨[],[]⟩) (fn:=Tryz.f128) (N:=N) (Ag trivial)
def sW (N:Nat):Sig:=.of [Sq2] [.cell false .bool] (fun a=>Qr N a)
theorem dF (N:Nat):Spec Tryz.prog 131 (sW N):=Ac (C:=ctx Tryz.prog [] []) (L:=⟨[],[]⟩) (fn:=Tryz.f131) (N:=N) (Ag trivial)
end
noncomputable section
def tC (N:Nat):Sig:=.of [Sq2] [.cell false .bool] (fun a=>Qs N a)
theorem dG (N:Nat):Spec Tryz.prog 134 (tC N):=Ac (C:=ctx Tryz.prog [] []) (L:=⟨[],[]⟩) (fn:=Tryz.f134) (N:=N) (Ag trivial)
def nP (N:Nat):Sig:=.of [Sq2] [.cell false .bool] (fun a=>OJ N a)
theorem YL (N:Nat):Spec Tryz.prog 137 (nP N):=Ac (C:=ctx Tryz.prog [] []) (L:=⟨[],[]⟩) (fn:=Tryz.f137) (N:=N) (Ag trivial)
def nS (N:Nat):Sig:=.of [Sq2] [.cell false .bool] (fun a=>OL N a)
theorem YM (N:Nat):Spec Tryz.prog 140 (nS N):=Ac (C:=ctx Tryz.prog [] []) (L:=⟨[],[]⟩) (fn:=Tryz.f140) (N:=N) (Ag trivial)
def nU (N:Nat):Sig:=.of [Sq2] [.cell false .bool] (fun a=>OM N a)
theorem YN (N:Nat):Spec Tryz.prog 143 (nU N):=Ac (C:=ctx Tryz.prog [] []) (L:=⟨[],[]⟩) (fn:=Tryz.f143) (N:=N) (Ag trivial)
def nX (N:Nat):Sig:=.of [Sq2] [.cell false .bool] (fun a=>OO N a)
theorem YO (N:Nat):Spec Tryz.prog 146 (nX N):=Ac (C:=ctx Tryz.prog [] []) (L:=⟨[],[]⟩) (fn:=Tryz.f146) (N:=N) (Ag trivial)
def NP (N:Nat):Sig:=.of [.box [(false,.bool)]] [.cell false .bool] (fun a=>IV N a)
theorem PX (N:Nat):Spec Tryz.prog 45 (NP N):=Ac (C:=ctx Tryz.prog [] []) (L:=⟨[],[]⟩) (fn:=Tryz.f45) (N:=N) (Ag trivial)
def CZ (N:Nat):Sig:=.of [.box [(false,.bool)],.cell false .str,.cell false (.int .i64)] [.cell false .str] (fun a=>BI N a.1 a.2.1 a.2.2)
theorem CO (N:Nat):Spec Tryz.prog 71 (CZ N):=Ac (C:=ctx Tryz.prog [] []) (L:=⟨[],[]⟩) (fn:=Tryz.f71) (N:=N) (Ag trivial)
def Ahe:List (Nat×Nrm):=[(3,⟨[0,1,6],[],[],[],[]⟩),(22,⟨[0,1,6,21,22,23],[],[],[],[]⟩),(77,⟨[1,9],[],[],[(45568,1008192),(47616,1008192),(49664,1008192),(52480,1008192)],[]⟩)]
def Ajy:Lk:=⟨[(77,⟨[(1,.i),(9,.c (xo 1008192))],[(1008192,.arr 5 false (.int .u8 .nil))]⟩)],[(22,⟨[(0,.i),(1,.i),(6,.c x64),(21,.i),(22,.i),(23,.c x64)],[]⟩,[(0,⟨[(0,.i),(1,.i),(6,.c x64)],[]⟩)])]⟩
def J9 (N:Nat):Sig:=.of [.cell false (.int .i64),Sq1] [.cell false .str,.cell false (.int .i64)] (fun a=>BR N a.1 a.2)
theorem H9 (N:Nat):Spec Tryz.prog 164 (J9 N):=Ac (C:=ctx Tryz.prog [(215,Yz N)] Ahe) (L:=Ajy) (fn:=Tryz.f164) (N:=N) (Ag ⟨pW N,trivial⟩)
end
