import Derived.Test.YtfgdgdnlglejbaaGreatDoorA10
import Derived.Test.YtfgdgdnlglejbaaGreatDoorA11
import Derived.Test.YtfgdgdnlglejbaaGreatDoorA12
set_option linter.all false
namespace Go.Proofs.YtfgdgdnlglejbaaGreatDoor.Vm
noncomputable section
variable (N:Nat)
open Go.Proofs
def X3:Sig:=.of [Dv] [Dv] (fun a=>VX N a)
theorem Zz:Dq 292 (X3 N):=Du (Dt [] []) ⟨[],[]⟩ Tryz.f292 N (Dp trivial)
def AdO:List (Nat×Nrm):=[(3,⟨[0,4],[],[],[],[]⟩),(11,⟨[5],[],[],[],[]⟩),(18,⟨[0,4],[],[],[],[]⟩),(38,⟨[0,5,34,35],[],[],[],[]⟩)]
def AfF:Lk:=⟨[],[(18,⟨[(0,.i),(4,.c x64)],[]⟩,[(0,⟨[(0,.i),(4,.c x64)],[]⟩)]),(38,⟨[(0,.i),(5,.c (xo 38912)),(34,.i),(35,.c x64)],[(38912,.arr 5 false Ar)]⟩,[(2,⟨[(5,.c (xo 38912))],[(38912,.arr 5 false Ar)]⟩)])]⟩
def Ux:Sig:=.of [Dv] [Dw,Dv] (fun a=>I4 N a)
theorem Xa:Dq 218 (Ux N):=Du (Dt [] AdO) AfF Tryz.f218 N (Dp trivial)
def RZ:Sig:=.of [.box [(false,.bool)]] [Ea] (fun a=>Gu N a)
theorem Oy:Dq 61 (RZ N):=Du (Dt [] []) ⟨[],[]⟩ Tryz.f61 N (Dp trivial)
def Nl:Sig:=.of [Lp] [G9,Dv] (fun a=>Qj N a)
theorem Ox:Dq 105 (Nl N):=Du (Dt [] []) ⟨[],[]⟩ Tryz.f105 N (Dp trivial)
def Ahm:List (Nat×Nrm):=[(3,⟨[3],[([3],3,Au,1016384)],[],[(1000000,1016384)],[]⟩),(7,⟨[0,3,4],[],[],[],[]⟩),(11,⟨[],[],[],[],[]⟩),(14,⟨[0,3,4],[([3],3,Au,1000000)],[],[(42240,1000000)],[]⟩),(30,⟨[0,3,4,5],[([3],3,Au,1004096)],[],[(1000000,1004096)],[]⟩)]
def AiP:Lk:=⟨[],[(14,⟨[(0,.i),(3,.c (xo 1000000)),(4,.c x64)],[(1000000,.arr 3 false Au)]⟩,[(0,⟨[(3,.c (xo 1016384))],[(1016384,.arr 3 false Au)]⟩)]),(30,⟨[(0,.i),(3,.c (xo 1004096)),(4,.c x64),(5,.c x64)],[(1004096,.arr 3 false Au)]⟩,[(1,⟨[(0,.i),(3,.c (xo 42240)),(4,.c x64)],[(42240,.arr 3 false Au)]⟩),(2,⟨[],[]⟩)])]⟩
def uI:Sig:=.of [Dw] [AjM] (fun a=>AcE N a)
theorem AdH:Dq 276 (uI N):=Du (Dt [] Ahm) AiP Tryz.f276 N (Dp trivial)
def FK:Sig:=.of [Lp] [Dv] (fun a=>EG N a)
theorem Fv:Dq 49 (FK N):=Du (Dt [] []) ⟨[],[]⟩ Tryz.f49 N (Dp trivial)
def AfE:List (Nat×Nrm):=[(3,⟨[4],[],[],[],[]⟩),(30,⟨[0,4,42,43],[],[],[],[]⟩)]
def Ahs:Lk:=⟨[],[(30,⟨[(0,.i),(4,.c x64),(42,.i),(43,.c x64)],[]⟩,[(0,⟨[(4,.c x64)],[]⟩)])]⟩
def Qr:Sig:=.of [Dw] [Dv,Dv] (fun a=>MI N a)
theorem QK:Dq 193 (Qr N):=Du (Dt [] AfE [] [] [] [8,12,16,20,21,25,29,30,31,32]) Ahs Tryz.f193 N (Dp trivial)
def Aek:List (Nat×Nrm):=[(3,⟨[],[],[],[],[]⟩),(10,⟨[0,3],[],[],[],[]⟩)]
def Agh:Lk:=⟨[],[(10,⟨[(0,.i),(3,.c x64)],[]⟩,[(0,⟨[],[]⟩)])]⟩
def fV:Sig:=.of [.cell false (.sl 89 Tq5)] [Ea] (fun a=>vH N a)
theorem Abl:Dq 266 (fV N):=Du (Dt [] Aek) Agh Tryz.f266 N (Dp trivial)
def uB:Sig:=.of [Dw] [Dw,Dw] (fun a=>Ac1 N a)
theorem Ad3:Dq 412 (uB N):=Du (Dt [] []) ⟨[],[]⟩ Tryz.f412 N (Dp trivial)
def Afg:Sig:=.of [Dw,Dv] [Ea] (fun a=>qB N a.1 a.2)
theorem AiG:Dq 413 (Afg N):=Du (Dt [] []) ⟨[],[]⟩ Tryz.f413 N (Dp trivial)
def lQ:Sig:=.of [Dw] [Ea] (fun a=>Z5 N a)
theorem AbP:Dq 371 (lQ N):=Du (Dt [] []) ⟨[],[]⟩ Tryz.f371 N (Dp trivial)
def EZ:Sig:=.of [.box [(false,.bool)],Dw,Dv] [Dw] (fun a=>Eh N a.1 a.2.1 a.2.2)
theorem EL:Dq 55 (EZ N):=Du (Dt [] []) ⟨[],[]⟩ Tryz.f55 N (Dp trivial)
def AmI:List (Nat×Nrm):=[(3,⟨[0,1,6],[],[],[],[]⟩),(22,⟨[0,1,6,21,22,23],[],[],[],[]⟩),(77,⟨[1,9],[],[],[(45568,1008192),(47616,1008192),(49664,1008192),(52480,1008192)],[]⟩)]
def Aps:Lk:=⟨[(77,⟨[(1,.i),(9,.c (xo 1008192))],[(1008192,.arr 5 false Ar)]⟩)],[(22,⟨[(0,.i),(1,.i),(6,.c x64),(21,.i),(22,.i),(23,.c x64)],[]⟩,[(0,⟨[(0,.i),(1,.i),(6,.c x64)],[]⟩)])]⟩
def Ho:Sig:=.of [Dv,Sq6] [Dw,Dv] (fun a=>EE N a.1 a.2)
theorem Gq:Dq 123 (Ho N):=Du (Dt [(209,VP N)] AmI) Aps Tryz.f123 N (Dp ⟨Yw N,trivial⟩)
def AgB:List (Nat×Nrm):=[(3,⟨[3],[],[],[],[]⟩),(14,⟨[3,7,8,9],[],[],[],[]⟩)]
def Ai8:Lk:=⟨[],[(14,⟨[(3,.c x64),(7,.c (xo 34560)),(8,.i),(9,.c x64)],[(34560,.arr 5 false Ar)]⟩,[(0,⟨[(3,.c x64)],[]⟩)])]⟩
def Xx:Sig:=.of [Dw] [Dv] (fun a=>L8 N a)
theorem Zu:Dq 268 (Xx N):=Du (Dt [] AgB) Ai8 Tryz.f268 N (Dp trivial)
def IL:Sig:=.of [Lp,Dv] [G9,Ea] (fun a=>FN N a.1 a.2)
theorem IB:Dq 109 (IL N):=Du (Dt [] []) ⟨[],[]⟩ Tryz.f109 N (Dp trivial)
def Iw:Sig:=.of [Lp] [Dv] (fun a=>GR N a)
theorem Ik:Dq 196 (Iw N):=Du (Dt [] []) ⟨[],[]⟩ Tryz.f196 N (Dp trivial)
def VI:Sig:=.of [Dw] [Ea,Dv] (fun a=>ZU N a)
theorem Yi:Dq 307 (VI N):=Du (Dt [] []) ⟨[],[]⟩ Tryz.f307 N (Dp trivial)
def ZW:Sig:=.of [Dw,Dv] [Ea] (fun a=>Uz N a.1 a.2)
theorem eY:Dq 150 (ZW N):=Du (Dt [] []) ⟨[],[]⟩ Tryz.f150 N (Dp trivial)
def AfG:Sig:=.of [Dw,Dv] [Ea] (fun a=>qZ N a.1 a.2)
theorem AiW:Dq 402 (AfG N):=Du (Dt [] []) ⟨[],[]⟩ Tryz.f402 N (Dp trivial)
def Aac:Sig:=.of [] [Ark] (fun _=>Afb N)
theorem Afc:Dq 387 (Aac N):=Du (Dt [] []) ⟨[],[]⟩ Tryz.f387 N (Dp trivial)
def Aa3:List (Nat×Nrm):=[(3,⟨[0,3],[],[],[],[]⟩),(11,⟨[5],[([5],5,Ar,1012288)],[],[(1008192,1012288)],[]⟩),(14,⟨[0,3,4],[],[],[],[]⟩),(34,⟨[0,3,5,18,19],[([5],5,Ar,1008192)],[],[(41216,1008192)],[]⟩)]
def AbU:Lk:=⟨[],[(14,⟨[(0,.i),(3,.c x64),(4,.c x64)],[]⟩,[(0,⟨[(0,.i),(3,.c x64)],[]⟩)]),(34,⟨[(0,.i),(3,.i),(5,.c (xo 1008192)),(18,.i),(19,.c x64)],[(1008192,.arr 5 false Ar)]⟩,[(2,⟨[(5,.c (xo 1012288))],[(1012288,.arr 5 false Ar)]⟩)])]⟩
def QM:Sig:=.of [Dv] [Dw] (fun a=>Jz N a)
theorem Uy:Dq 119 (QM N):=Du (Dt [] Aa3) AbU Tryz.f119 N (Dp trivial)
def AeC:Sig:=.of [Dv] [Dv] (fun a=>Xu N a)
theorem zA:Dq 289 (AeC N):=Du (Dt [] []) ⟨[],[]⟩ Tryz.f289 N (Dp trivial)
def Acr:Sig:=.of [Dv] [Ea] (fun a=>zB N a)
theorem AgA:Dq 290 (Acr N):=Du (Dt [] []) ⟨[],[]⟩ Tryz.f290 N (Dp trivial)
def AlW:List (Nat×Nrm):=[(3,⟨[0,1,7],[],[],[(0,1004096),(1000000,1004096)],[]⟩),(11,⟨[0],[],[],[],[]⟩),(14,⟨[0,1,2,7,8],[],[],[(0,1000000),(37632,1000000)],[]⟩),(30,⟨[0,1,7,9],[],[],[],[]⟩)]
def AnR:Lk:=⟨[],[(14,⟨[(0,.c (xo 1000000)),(1,.i),(2,.i),(7,.i),(8,.c x64)],[(1000000,.arr 5 false Ar)]⟩,[(0,⟨[(0,.c (xo 1004096)),(1,.i),(7,.i)],[(1004096,.arr 5 false Ar)]⟩)]),(30,⟨[(0,.c (xo 1004096)),(1,.c x64),(7,.i),(9,.c x64)],[(1004096,.arr 5 false Ar)]⟩,[(2,⟨[(0,.c (xo 1004096))],[(1004096,.arr 5 false Ar)]⟩)])]⟩
def AeF:Sig:=.of [Sq8,Dv,Dv] [Sq8] (fun a=>oV N a.1 a.2.1 a.2.2)
theorem Ai9:Dq 127 (AeF N):=Du (Dt [] AlW) AnR Tryz.f127 N (Dp trivial)
def Akt:List (Nat×Nrm):=[(3,⟨[3],[],[],[],[]⟩),(14,⟨[3,9,10,11],[],[],[],[]⟩)]
def Ama:Lk:=⟨[],[(14,⟨[(3,.c (xo 34816)),(9,.i),(10,.i),(11,.c x64)],[(34816,.mp Aq Au)]⟩,[(0,⟨[(3,.c (xo 34816))],[(34816,.mp Aq Au)]⟩)])]⟩
def Acu:Sig:=.of [.cell false (.sl 176 Tq4)] [Sq9] (fun a=>AhX N a)
theorem AgN:Dq 213 (Acu N):=Du (Dt [] Akt) Ama Tryz.f213 N (Dp trivial)
def AcS:Sig:=.of [Dv] [Dv] (fun a=>Abm N a)
theorem AhH:Dq 300 (AcS N):=Du (Dt [] []) ⟨[],[]⟩ Tryz.f300 N (Dp trivial)
def AoN:List (Nat×Nrm):=[(3,⟨[0,1,5],[],[],[],[]⟩),(10,⟨[0,1,5],[],[],[],[]⟩),(11,⟨[0,1],[],[],[(0,1012288),(1008192,1012288)],[]⟩),(22,⟨[0,1,6],[],[],[(0,1008192),(40704,1008192)],[]⟩)]
def AqA:Lk:=⟨[],[(10,⟨[(0,.c (xo 0)),(1,.i),(5,.c x64)],[(0,.arr 5 true Ar)]⟩,[(0,⟨[(0,.c (xo 0)),(1,.i),(5,.c x64)],[(0,.arr 5 true Ar)]⟩)]),(22,⟨[(0,.c (xo 1008192)),(1,.i),(6,.c x64)],[(1008192,.arr 5 true Ar)]⟩,[(2,⟨[(0,.c (xo 1012288)),(1,.i)],[(1012288,.arr 5 true Ar)]⟩)])]⟩
def Aiq:Sig:=.of [Au2,Dv] [Au2] (fun a=>Ahn N a.1 a.2)
theorem AkU:Dq 208 (Aiq N):=Du (Dt [] AoN) AqA Tryz.f208 N (Dp trivial)
def QL:Sig:=.of [Ea] [Dw] (fun a=>Uu N a)
theorem Uw:Dq 216 (QL N):=Du (Dt [] []) ⟨[],[]⟩ Tryz.f216 N (Dp trivial)
def zF (N n:Nat):Sig:=.of [.cell false (.int .i64)] [.cell false (.int .i64)] (AgE N n)
theorem AeH:Qc Tryz.prog (zF N):=SL (Dx:=[.cell false (.int .i64)]) (DL:=[.cell false (.int .i64)]) (l:=[(289,fun a=>Xu N a)]) ⟨zA N,trivial⟩
def Xw:Sig:=.of [Dv,Dv] [Dv] (fun a=>Oa N a.1 a.2)
theorem Zt:Dq 212 (Xw N):=Du (Dt [(290,Acr N)] []) ⟨[],[]⟩ Tryz.f212 N (Dp ⟨AgA N,trivial⟩)
def AmH:List (Nat×Nrm):=[(3,⟨[0,2,5,6,7,8,9],[],[],[],[]⟩),(74,⟨[0,2,5,6,7,8,9,50,51,52],[],[],[],[]⟩),(101,⟨[0,2,5,6,7,8],[],[],[],[]⟩)]
def Apr:Lk:=⟨[(101,⟨[(0,.i),(2,.c AL),(5,.c AX),(6,.i),(7,.c x64),(8,.c x64)],[(33280,.box BH),(34048,.box BH)]⟩)],[(74,⟨[(0,.i),(2,.c AL),(5,.c AX),(6,.i),(7,.c x64),(8,.i),(9,.i),(50,.c (xo 45568)),(51,.i),(52,.c x64)],[(33280,.box BH),(34048,.box BH),(45568,.arr 5 false Ar)]⟩,[(0,⟨[(0,.i),(2,.c AL),(5,.c AX),(6,.i),(7,.c x64),(8,.i),(9,.i)],[(33280,.box BH),(34048,.box BH)]⟩)])]⟩
def YK:Sig:=.of [Dw] [G9,Dw,Dv] (fun a=>SE N a)
theorem XR:Dq 239 (YK N):=Du (Dt [(300,AcS N)] AmH) Apr Tryz.f239 N (Dp ⟨AhH N,trivial⟩)
def FM:Sig:=.of [Lp,Dv] [G9,Dv] (fun a=>Gg N a.1 a.2)
theorem Fz:Dq 45 (FM N):=Du (Dt [(105,Nl N)] []) ⟨[],[]⟩ Tryz.f45 N (Dp ⟨Ox N,trivial⟩)
def AiN:List (Nat×Nrm):=[(3,⟨[7],[([7],9,Aq,1004096)],[],[(1000000,1004096)],[]⟩),(34,⟨[7,36,37,38],[([7],9,Aq,1000000)],[],[(45056,1000000)],[]⟩)]
def AkR:Lk:=⟨[],[(34,⟨[(7,.c (xo 1000000)),(36,.c (xo 41728)),(37,.i),(38,.c x64)],[(41728,.arr 3 false Au),(1000000,.arr 9 false Aq)]⟩,[(0,⟨[(7,.c (xo 1004096))],[(1004096,.arr 9 false Aq)]⟩)])]⟩
def PI:Sig:=.of [Dw] [Dw,Dv] (fun a=>N8 N a)
theorem OJ:Dq 200 (PI N):=Du (Dt [(276,uI N),(277,nS N),(209,VP N)] AiN) AkR Tryz.f200 N (Dp ⟨AdH N,Ace N,Yw N,trivial⟩)
def zC:Sig:=.of [Dv,Dw] [Sq7] (fun a=>AeD N a.1 a.2)
theorem AeE:Dq 270 (zC N):=Du (Dt [(268,Xx N)] []) ⟨[],[]⟩ Tryz.f270 N (Dp ⟨Zu N,trivial⟩)
def zD:List (Nat×Nrm):=[(29,⟨[8,9],[],[],[],[]⟩)]
def AbN:Lk:=⟨[(29,⟨[(8,.i),(9,.c x64)],[(0,.box [Bl])]⟩)],[]⟩
def XY:Sig:=.of [Lp,Dv] [Ea,Dv] (fun a=>dN N a.1 a.2)
theorem oW:Dq 356 (XY N):=Du (Dt [(109,IL N),(307,VI N)] zD) AbN Tryz.f356 N (Dp ⟨IB N,Yi N,trivial⟩)
def Wn:Sig:=.of [Dw] [Dw,Dv,Dv] (fun a=>eU N a)
theorem VH:Dq 113 (Wn N):=Du (Dt [(150,ZW N)] []) ⟨[],[]⟩ Tryz.f113 N (Dp ⟨eY N,trivial⟩)
def AoL:List (Nat×Nrm):=[(3,⟨[3],[],[],[],[]⟩),(22,⟨[0,3,4],[],[],[],[]⟩)]
def Aq9:Lk:=⟨[],[(22,⟨[(0,.i),(3,.c x64),(4,.c x64)],[]⟩,[(0,⟨[(3,.c x64)],[]⟩)])]⟩
def Aip:Sig:=.of [Dw] [Dv] (fun a=>Anj N a)
theorem AkT:Dq 283 (Aip N):=Du (Dt [] AoL [] [] [] [7,11,12,16,20,21]) Aq9 Tryz.f283 N (Dp trivial)
def Af6:Sig:=.of [Dv,Dv] [Ea] (fun a=>AkV N a.1 a.2)
theorem AiQ:Dq 284 (Af6 N):=Du (Dt [] []) ⟨[],[]⟩ Tryz.f284 N (Dp trivial)
def vG:Sig:=.of [.cell false (.int .u8)] [Ea] (fun a=>AcO N a)
theorem Aej:Dq 363 (vG N):=Du (Dt [] [] [] [] [] [5,8,9,12,15,16,17,20,23,24]) ⟨[],[]⟩ Tryz.f363 N (Dp trivial)
def AhF:Sig:=.of [.cell false (.int .u8)] [Ea] (fun a=>aZ N a)
theorem Ach:Dq 365 (AhF N):=Du (Dt [] []) ⟨[],[]⟩ Tryz.f365 N (Dp trivial)
def AeY:Sig:=.of [Dv] [Dv] (fun a=>pR N a)
theorem AiD:Dq 279 (AeY N):=Du (Dt [] []) ⟨[],[]⟩ Tryz.f279 N (Dp trivial)
def X6:Sig:=.of [.cell false (.int .u8)] [Ea] (fun a=>iQ N a)
theorem Z9:Dq 448 (X6 N):=Du (Dt [] [] [] [] [] [5,8,9,12,15,16]) ⟨[],[]⟩ Tryz.f448 N (Dp trivial)
def Z8:Sig:=.of [.cell false (.int .u8)] [Ea] (fun a=>Y8 N a)
theorem dU:Dq 449 (Z8 N):=Du (Dt [] []) ⟨[],[]⟩ Tryz.f449 N (Dp trivial)
def Amz:List (Nat×Nrm):=[(3,⟨[4],[([4],3,Au,1004096)],[],[(1000000,1004096)],[]⟩),(26,⟨[4,18,19,20],[([4],3,Au,1000000)],[],[(40704,1000000)],[]⟩)]
def AoM:Lk:=⟨[],[(26,⟨[(4,.c (xo 1000000)),(18,.i),(19,.i),(20,.c x64)],[(1000000,.arr 3 false Au)]⟩,[(0,⟨[(4,.c (xo 1004096))],[(1004096,.arr 3 false Au)]⟩)])]⟩
def qR:Sig:=.of [Dw] [Sq0] (fun a=>AdG N a)
theorem uH:Dq 207 (qR N):=Du (Dt [(282,OU N),(283,Aip N),(284,Af6 N)] Amz) AoM Tryz.f207 N (Dp ⟨Xk N,AkT N,AiQ N,trivial⟩)
def AhE:Sig:=.of [.cell false (.int .u8)] [Ea] (fun a=>aY N a)
theorem Acg:Dq 362 (AhE N):=Du (Dt [(363,vG N),(364,O9 N)] []) ⟨[],[]⟩ Tryz.f362 N (Dp ⟨Aej N,Rk N,trivial⟩)
def AiH:List (Nat×Nrm):=[(3,⟨[],[],[],[],[]⟩),(18,⟨[27,28,29],[],[],[],[]⟩)]
def Ak5:Lk:=⟨[],[(18,⟨[(27,.c (xo 39680)),(28,.i),(29,.c x64)],[(39680,.arr 5 false Ar)]⟩,[(0,⟨[],[]⟩)])]⟩
def Aai:Sig:=.of [Dw] [Ea] (fun a=>Afh N a)
theorem Afi:Dq 445 (Aai N):=Du (Dt [(448,X6 N),(449,Z8 N)] AiH [] [] [] [8,12,13,17,18,25]) Ak5 Tryz.f445 N (Dp ⟨Z9 N,dU N,trivial⟩)
def AiI:List (Nat×Nrm):=[(3,⟨[],[],[],[],[]⟩),(18,⟨[32,33,34],[],[],[],[]⟩)]
def Ak6:Lk:=⟨[],[(18,⟨[(32,.c (xo 40960)),(33,.i),(34,.c x64)],[(40960,.arr 5 false Ar)]⟩,[(0,⟨[],[]⟩)])]⟩
def Aaj:Sig:=.of [Dw] [Ea] (fun a=>qC N a)
theorem Afj:Dq 409 (Aaj N):=Du (Dt [(411,PX N),(448,X6 N),(449,Z8 N),(364,O9 N)] AiI [] [] [] [9,13,14,18,19,26,27,30]) Ak6 Tryz.f409 N (Dp ⟨TA N,Z9 N,dU N,Rk N,trivial⟩)
def AiF:List (Nat×Nrm):=[(3,⟨[],[],[],[],[]⟩),(26,⟨[3,4,5,6],[],[],[],[]⟩)]
def Ak4:Lk:=⟨[],[(26,⟨[(3,.i),(4,.i),(5,.c xb),(6,.c x64)],[]⟩,[(0,⟨[],[]⟩)])]⟩
def Aah:Sig:=.of [Dw] [Ea] (fun a=>qA N a)
theorem Aff:Dq 370 (Aah N):=Du (Dt [(412,uB N),(413,Afg N)] AiF [] [] [] [32,34,35,38,42,43]) Ak4 Tryz.f370 N (Dp ⟨Ad3 N,AiG N,trivial⟩)
def EO:Sig:=.of [.box [(false,.bool)],Dv,Sq6] [Dw] (fun a=>Ej N a.1 a.2.1 a.2.2)
theorem EH:Dq 58 (EO N):=Du (Dt [(123,Ho N),(55,EZ N)] []) ⟨[],[]⟩ Tryz.f58 N (Dp ⟨Gq N,EL N,trivial⟩)
def LJ:Sig:=.of [Dw] [Ea] (fun a=>Jl N a)
theorem JU:Dq 214 (LJ N):=Du (Dt [(207,qR N)] []) ⟨[],[]⟩ Tryz.f214 N (Dp ⟨uH N,trivial⟩)
def AhW (N n:Nat):Sig:=.of [.cell false (.int .u8)] [.cell false .bool] (AmZ N n)
theorem AnY:Qc Tryz.prog (AhW N):=SL (Dx:=[.cell false (.int .u8)]) (DL:=[.cell false .bool]) (l:=[(362,fun a=>aY N a),(365,fun a=>aZ N a)]) ⟨Acg N,Ach N,trivial⟩
def Ami:List (Nat×Nrm):=[(3,⟨[],[],[],[],[]⟩),(18,⟨[9,10,11],[],[],[],[]⟩)]
def Aot:Lk:=⟨[],[(18,⟨[(9,.i),(10,.i),(11,.c x64)],[]⟩,[(0,⟨[],[]⟩)])]⟩
def Ua:Sig:=.of [Dw] [Ea] (fun a=>L9 N a)
theorem Rt:Dq 406 (Ua N):=Du (Dt [(282,OU N),(445,Aai N)] Ami) Aot Tryz.f406 N (Dp ⟨Xk N,Afi N,trivial⟩)
def F9:Sig:=.of [.box [(false,.bool)],Sq6] [Dw] (fun a=>EN N a.1 a.2)
theorem Fg:Dq 52 (F9 N):=Du (Dt [(58,EO N)] []) ⟨[],[]⟩ Tryz.f52 N (Dp ⟨EH N,trivial⟩)
def Np:Sig:=.of [.box [(false,.bool)],Dv] [Dw] (fun a=>Me N a.1 a.2)
theorem Oz:Dq 53 (Np N):=Du (Dt [(119,QM N),(58,EO N)] []) ⟨[],[]⟩ Tryz.f53 N (Dp ⟨Uy N,EH N,trivial⟩)
def Xv:Sig:=.of [Dv] [Dv] (fun a=>VU N a)
theorem Zr:Dq 211 (Xv N):=Du (Dt [] [] [] [(7,zF N),(12,zF N)]) ⟨[],[]⟩ Tryz.f211 N (Dp trivial trivial ⟨AeH N,AeH N,trivial⟩)
def Qa:Sig:=.of [Dw] [G9,Dv] (fun a=>Qx N a)
theorem MO:Dq 148 (Qa N):=Du (Dt [(239,YK N)] []) ⟨[],[]⟩ Tryz.f148 N (Dp ⟨XR N,trivial⟩)
def V8:Sig:=.of [] [Arl] (fun _=>TZ N)
theorem Ye:Dq 434 (V8 N):=Du (Dt [] []) ⟨[],[]⟩ Tryz.f434 N (Dp trivial)
def Acz:Sig:=.of [.cell false (.int .u32),.cell false (.int .u64)] [.cell false (.int .u32)] (fun a=>Jj N a.1 a.2)
theorem AgU:Dq 462 (Acz N):=Du (Dt [] []) ⟨[],[]⟩ Tryz.f462 N (Dp trivial)
def uA:Sig:=.of [] [AvQ] (fun _=>Acy N)
theorem Ad2:Dq 463 (uA N):=Du (Dt [] []) ⟨[],[]⟩ Tryz.f463 N (Dp trivial)
def KC:Sig:=.of [Agn] [Ea] (fun a=>GK N a)
theorem LG:Dq 179 (KC N):=Du (Dt [] []) ⟨[],[]⟩ Tryz.f179 N (Dp trivial)
def Ah3:List (Nat×Nrm):=[(3,⟨[0,5,6],[],[],[],[]⟩),(11,⟨[0,5,6],[],[],[],[]⟩),(18,⟨[0,1,5,6,7],[],[],[],[]⟩),(19,⟨[0,13,14,15,16,17,18,19,20],[],[],[],[]⟩),(34,⟨[0,5,6,8],[],[],[],[]⟩),(66,⟨[0,5,6,13,14,15,16,17,18,19,20,21],[],[],[],[]⟩)]
def Ajf:Lk:=⟨[],[(18,⟨[(0,.i),(1,.i),(5,.c (xo 39424)),(6,.c (.c (.Eg 34304 0 0))),(7,.c x64)],[(34304,.arr 271 false Aw),(39424,.arr 203 false Aw)]⟩,[(0,⟨[(0,.i),(5,.c (xo 39424)),(6,.c (.c (.Eg 34304 0 0)))],[(34304,.arr 271 false Aw),(39424,.arr 203 false Aw)]⟩)]),(34,⟨[(0,.i),(5,.c (xo 39424)),(6,.c (.c (.Eg 34304 0 0))),(8,.c x64)],[(34304,.arr 271 false Aw),(39424,.arr 203 false Aw)]⟩,[(2,⟨[(0,.i),(5,.c (xo 39424)),(6,.c (.c (.Eg 34304 0 0)))],[(34304,.arr 271 false Aw),(39424,.arr 203 false Aw)]⟩)]),(66,⟨[(0,.i),(5,.c (xo 39424)),(6,.c (.c (.Eg 34304 0 0))),(13,.c Bf),(14,.c Bf),(15,.c Bf),(16,.c Bf),(17,.c Bf),(18,.c Bf),(19,.c Bf),(20,.c Bf),(21,.c x64)],[(34304,.arr 271 false Aw),(39424,.arr 203 false Aw)]⟩,[(4,⟨[(0,.i),(13,.c Bf),(14,.c Bf),(15,.c Bf),(16,.c Bf),(17,.c Bf),(18,.c Bf),(19,.c Bf),(20,.c Bf)],[]⟩)])]⟩
def uQ:Sig:=.of [Au3,Dw] [Au3] (fun a=>QZ N a.1 a.2)
theorem AdU:Dq 153 (uQ N):=Du (Dt [] Ah3) Ajf Tryz.f153 N (Dp trivial)
def AfS:Sig:=.of [Dv] [Dw] (fun a=>rO N a)
theorem Ajm:Dq 80 (AfS N):=Du (Dt [] []) ⟨[],[]⟩ Tryz.f80 N (Dp trivial)
def JJ:Sig:=.of [AcW] [Ea] (fun a=>HY N a)
theorem KG:Dq 92 (JJ N):=Du (Dt [] []) ⟨[],[]⟩ Tryz.f92 N (Dp trivial)
def Wi:Sig:=.of [Dv] [Dw] (fun a=>WT N a)
theorem VE:Dq 242 (Wi N):=Du (Dt [] []) ⟨[],[]⟩ Tryz.f242 N (Dp trivial)
def AcA:Sig:=.of [Dv] [Dw] (fun a=>Aij N a)
theorem Ahj:Dq 258 (AcA N):=Du (Dt [] []) ⟨[],[]⟩ Tryz.f258 N (Dp trivial)
def qW:Sig:=.of [Dv] [Dw] (fun a=>mX N a)
theorem jB:Dq 349 (qW N):=Du (Dt [] []) ⟨[],[]⟩ Tryz.f349 N (Dp trivial)
def AdL:Sig:=.of [Dv] [Dw] (fun a=>mW N a)
theorem AcF:Dq 350 (AdL N):=Du (Dt [] []) ⟨[],[]⟩ Tryz.f350 N (Dp trivial)
def Am1:List (Nat×Nrm):=[(3,⟨[3],[],[],[],[]⟩),(14,⟨[3,10,11,12],[],[],[],[]⟩)]
def AoS:Lk:=⟨[],[(14,⟨[(3,.c (xo 35072)),(10,.i),(11,.i),(12,.c x64)],[(35072,.arr 5 false Ar)]⟩,[(0,⟨[(3,.c (xo 35072))],[(35072,.arr 5 false Ar)]⟩)])]⟩
def qX:Sig:=.of [Sq6] [Dw] (fun a=>ZO N a)
theorem uK:Dq 304 (qX N):=Du (Dt [] Am1 [] [] [20]) AoS Tryz.f304 N (Dp trivial)
def Uo:Sig:=.of [Dw,Dv] [Dv] (fun a=>KN N a.1 a.2)
theorem WX:Dq 254 (Uo N):=Du (Dt [] []) ⟨[],[]⟩ Tryz.f254 N (Dp trivial)
def Vb:Sig:=.of [AvS] [Dw] (fun a=>Yh N a)
theorem iZ:Dq 181 (Vb N):=Du (Dt [] []) ⟨[],[]⟩ Tryz.f181 N (Dp trivial)
def aA (N n:Nat):Sig:=.of [.cell false (.int .i64)] [.cell false .str] (fun a=>Xb N n a)
theorem fC (N:Nat): ∀ n,Spec Tryz.prog 94 (aA N n)
 | 0=>Abd (C:=ctx Tryz.prog [] []) (fn:=Tryz.f94) (Dp (gs:=[]) trivial) (by kernel_rfl) (by kernel_rfl)
 | n+1=>Jf (C:=ctx Tryz.prog ((94,aA N n)::[]) []) (L:=⟨[],[]⟩) (fn:=Tryz.f94) (N:=N) (Dp ⟨fC N n,trivial⟩)
def jE:Sig:=aA N N
theorem mY:Spec Tryz.prog 94 (jE N):=fC N N
def AiR:List (Nat×Nrm):=[(3,⟨[4,5],[([4],3,Au,1004096)],[],[(1000000,1004096)],[]⟩),(26,⟨[4,5,14,15,16],[([4],3,Au,1000000)],[],[(40448,1000000)],[]⟩)]
def Ala:Lk:=⟨[],[(26,⟨[(4,.c (xo 1000000)),(5,.c x64),(14,.c (xo 36352)),(15,.i),(16,.c x64)],[(36352,.arr 5 false Ar),(1000000,.arr 3 false Au)]⟩,[(0,⟨[(4,.c (xo 1004096)),(5,.c x64)],[(1004096,.arr 3 false Au)]⟩)])]⟩
def ZN:Sig:=.of [Dw] [AjM,Dv] (fun a=>N9 N a)
theorem eH:Dq 255 (ZN N):=Du (Dt [] AiR) Ala Tryz.f255 N (Dp trivial)
def MG:Sig:=.of [G9] [Dv] (fun a=>Kt N a)
theorem LQ:Dq 165 (MG N):=Du (Dt [] [] [] [] [] [6,10,11,16,17,22]) ⟨[],[]⟩ Tryz.f165 N (Dp trivial)
def Ahi:List (Nat×Nrm):=[(3,⟨[4],[],[],[],[]⟩),(22,⟨[4,12,13,14],[],[],[],[]⟩)]
def AiL:Lk:=⟨[],[(22,⟨[(4,.c x64),(12,.c (xo 35840)),(13,.i),(14,.c x64)],[(35840,.arr 5 false Ar)]⟩,[(0,⟨[(4,.c x64)],[]⟩)])]⟩
def uG:Sig:=.of [Dw] [Dv,Ea] (fun a=>Wh N a)
theorem AdD:Dq 175 (uG N):=Du (Dt [] Ahi) AiL Tryz.f175 N (Dp trivial)
def qL:Sig:=.of [AjM] [TD] (fun a=>VC N a)
theorem uD:Dq 8 (qL N):=Du (Dt [] []) ⟨[],[]⟩ Tryz.f8 N (Dp trivial)
def Ajc:List (Nat×Nrm):=[(3,⟨[0,6],[],[],[],[]⟩),(22,⟨[0,6,22,23,24],[],[],[],[]⟩),(77,⟨[6,10],[],[],[(43008,1008192),(46592,1008192),(49408,1008192),(51456,1008192)],[]⟩)]
def Aln:Lk:=⟨[(77,⟨[(6,.i),(10,.c (xo 1008192))],[(1008192,.arr 5 false Ar)]⟩)],[(22,⟨[(0,.i),(6,.c xs),(22,.i),(23,.i),(24,.c x64)],[]⟩,[(0,⟨[(0,.i),(6,.c xs)],[]⟩)])]⟩
def UB:Sig:=.of [Dv,Sq6] [Dw,Dv] (fun a=>NG N a.1 a.2)
theorem UC:Dq 103 (UB N):=Du (Dt [] Ajc) Aln Tryz.f103 N (Dp trivial)
def Ajd:List (Nat×Nrm):=[(3,⟨[4],[([4],3,Au,1012288)],[],[(1000000,1012288)],[]⟩),(11,⟨[0,4,6,8],[([4],3,Au,1008192)],[],[(1004096,1008192)],[]⟩),(18,⟨[0,4,5,6],[([4],3,Au,1000000)],[],[(53760,1000000)],[]⟩),(58,⟨[0,4,6,7,8,9],[([4],3,Au,1004096)],[],[(1000000,1004096)],[]⟩)]
def Alo:Lk:=⟨[],[(18,⟨[(0,.i),(4,.c (xo 1000000)),(5,.c x64),(6,.c x64)],[(1000000,.arr 3 false Au)]⟩,[(0,⟨[(4,.c (xo 1012288))],[(1012288,.arr 3 false Au)]⟩)]),(58,⟨[(0,.i),(4,.c (xo 1004096)),(6,.i),(7,.i),(8,.c x64),(9,.c x64)],[(1004096,.arr 3 false Au)]⟩,[(2,⟨[(0,.i),(4,.c (xo 1008192)),(6,.i),(8,.c x64)],[(1008192,.arr 3 false Au)]⟩)])]⟩
def aF:Sig:=.of [Dw] [AjM,Ea] (fun a=>rG N a)
theorem fH:Dq 295 (aF N):=Du (Dt [] Ajd [] [] [] [43,47,48,52,56,57,58,62,88,93,94,99,104,105]) Alo Tryz.f295 N (Dp trivial)
def Ajb:List (Nat×Nrm):=[(3,⟨[0,2,5,6,8],[],[],[],[]⟩),(70,⟨[0,2,5,6,8,9],[],[],[],[]⟩),(97,⟨[0,2,5,6,7],[],[],[],[]⟩)]
def Alk:Lk:=⟨[(97,⟨[(0,.i),(2,.c AL),(5,.c AX),(6,.c x64),(7,.c x64)],[(33280,.box BH),(34048,.box BH)]⟩)],[(70,⟨[(0,.i),(2,.c AL),(5,.c AX),(6,.c x64),(8,.i),(9,.c x64)],[(33280,.box BH),(34048,.box BH)]⟩,[(0,⟨[(0,.i),(2,.c AL),(5,.c AX),(6,.c x64),(8,.i)],[(33280,.box BH),(34048,.box BH)]⟩)])]⟩
def aC:Sig:=.of [Dw] [G9,Dw,Dv] (fun a=>U1 N a)
theorem fF:Dq 102 (aC N):=Du (Dt [] Ajb) Alk Tryz.f102 N (Dp trivial)
def Ajg:List (Nat×Nrm):=[(3,⟨[],[],[],[],[]⟩),(10,⟨[0,3],[],[],[],[]⟩),(15,⟨[0,3,5,6,7],[],[],[],[]⟩),(65,⟨[0,3,4,5,6],[],[],[],[]⟩),(82,⟨[0,3,5,6,7,8],[],[],[],[]⟩)]
def Alq:Lk:=⟨[(65,⟨[(0,.i),(3,.c x64),(4,.i),(5,.c x64),(6,.c x64)],[]⟩)],[(10,⟨[(0,.i),(3,.c x64)],[]⟩,[(0,⟨[],[]⟩)]),(82,⟨[(0,.i),(3,.i),(5,.i),(6,.i),(7,.c x64),(8,.c x64)],[]⟩,[(3,⟨[(0,.i),(3,.i),(5,.i),(6,.i),(7,.c x64)],[]⟩)])]⟩
def AaC:Sig:=.of [Dw] [Ea] (fun a=>AfN N a)
theorem AfO:Dq 378 (AaC N):=Du (Dt [] Ajg [] [] [] [87,90,91,94,97,98]) Alq Tryz.f378 N (Dp trivial)
def RD:Sig:=.of [.cell false (.int .u8)] [Ea] (fun a=>QW N a)
theorem SA:Dq 379 (RD N):=Du (Dt [] [] [] [] [] [5,8,9,12,15,16,17,20,23,24]) ⟨[],[]⟩ Tryz.f379 N (Dp trivial)
def wP:List (Nat×Nrm):=[(3,⟨[2,4,5],[],[],[],[]⟩),(11,⟨[2,4,5],[],[],[],[]⟩),(14,⟨[1,2,4,5,6],[],[],[],[]⟩),(19,⟨[2,4,11],[],[],[],[]⟩),(27,⟨[4,11],[],[],[],[]⟩),(30,⟨[2,4,5,7],[],[],[],[]⟩),(62,⟨[2,4,5,10,11,12],[],[],[],[]⟩),(98,⟨[2,4,11,204],[],[],[],[]⟩)]
def Aae:Lk:=⟨[],[(14,⟨[(1,.i),(2,.c (.c (.Eg 33280 0 0))),(4,.c (.c (.Eg 33792 0 0))),(5,.c (.c (.Eg 34048 0 0))),(6,.c x64)],[(33280,.arr 392 false Aw),(33792,.arr 392 false Aw),(34048,.arr 271 false Aw)]⟩,[(0,⟨[(2,.c (.c (.Eg 33280 0 0))),(4,.c (.c (.Eg 33792 0 0))),(5,.c (.c (.Eg 34048 0 0)))],[(33280,.arr 392 false Aw),(33792,.arr 392 false Aw),(34048,.arr 271 false Aw)]⟩)]),(30,⟨[(2,.c (.c (.Eg 33280 0 0))),(4,.c (.c (.Eg 33792 0 0))),(5,.c (.c (.Eg 34048 0 0))),(7,.c x64)],[(33280,.arr 392 false Aw),(33792,.arr 392 false Aw),(34048,.arr 271 false Aw)]⟩,[(2,⟨[(2,.c (.c (.Eg 33280 0 0))),(4,.c (.c (.Eg 33792 0 0))),(5,.c (.c (.Eg 34048 0 0)))],[(33280,.arr 392 false Aw),(33792,.arr 392 false Aw),(34048,.arr 271 false Aw)]⟩)]),(62,⟨[(2,.c (.c (.Eg 33280 0 0))),(4,.c (.c (.Eg 33792 0 0))),(5,.c (.c (.Eg 34048 0 0))),(10,.c (.c (.Eg 35328 0 0))),(11,.c (.c (.Eg 35584 0 0))),(12,.c x64)],[(33280,.arr 392 false Aw),(33792,.arr 392 false Aw),(34048,.arr 271 false Aw),(35328,.arr 271 false Aw),(35584,.arr 392 false Aw)]⟩,[(4,⟨[(2,.c (.c (.Eg 33280 0 0))),(4,.c (.c (.Eg 33792 0 0))),(11,.c (.c (.Eg 35584 0 0)))],[(33280,.arr 392 false Aw),(33792,.arr 392 false Aw),(35584,.arr 392 false Aw)]⟩)]),(98,⟨[(2,.c (.c (.Eg 33280 0 0))),(4,.c (.c (.Eg 33792 0 0))),(11,.c (.c (.Eg 35584 0 0))),(204,.c x64)],[(33280,.arr 392 false Aw),(33792,.arr 392 false Aw),(35584,.arr 392 false Aw)]⟩,[(6,⟨[(4,.c (.c (.Eg 33792 0 0))),(11,.c (.c (.Eg 35584 0 0)))],[(33792,.arr 392 false Aw),(35584,.arr 392 false Aw)]⟩)])]⟩
def PD:Sig:=.of [Arl,AvR] [Arl] (fun a=>JZ N a.1 a.2)
theorem Tc:Dq 435 (PD N):=Du (Dt [(462,Acz N),(463,uA N)] wP) Aae Tryz.f435 N (Dp ⟨AgU N,Ad2 N,trivial⟩)
def JF:Sig:=.of [Agn] [Dv] (fun a=>Gj N a)
theorem KE:Dq 152 (JF N):=Du (Dt [(179,KC N)] []) ⟨[],[]⟩ Tryz.f152 N (Dp ⟨LG N,trivial⟩)
def Alm:List (Nat×Nrm):=[(3,⟨[3],[],[],[],[]⟩),(11,⟨[3,6,9],[],[],[],[]⟩),(14,⟨[3,15,16,17],[],[],[],[]⟩),(19,⟨[6],[],[(none,6,Aw)],[],[]⟩),(27,⟨[12],[],[],[(51456,1032768),(1028672,1032768)],[]⟩),(49,⟨[3,6,7,8],[],[],[],[]⟩),(62,⟨[3,6,7,9,10],[],[],[],[]⟩),(82,⟨[3,6,11],[],[(none,6,Aw)],[],[]⟩),(102,⟨[12,74,75,76],[],[],[(51456,1028672),(56576,1028672)],[]⟩)]
def Am5:Lk:=⟨[(49,⟨[(3,.i),(6,.c (xo 39168)),(7,.i),(8,.c x64)],[(39168,.arr 203 false Aw)]⟩)],[(14,⟨[(3,.c xs),(15,.i),(16,.i),(17,.c x64)],[]⟩,[(0,⟨[(3,.c xs)],[]⟩)]),(62,⟨[(3,.i),(6,.c (xo 39168)),(7,.i),(9,.c (xo 41984)),(10,.c x64)],[(39168,.arr 203 false Aw),(41984,.arr 5 false Ar)]⟩,[(2,⟨[(3,.i),(6,.c (xo 39168)),(9,.c (xo 41984))],[(39168,.arr 203 false Aw),(41984,.arr 5 false Ar)]⟩)]),(82,⟨[(3,.i),(6,.c (xl Aw)),(11,.c x64)],[]⟩,[(4,⟨[(6,.c (xl Aw))],[]⟩)]),(102,⟨[(12,.c (xo 1028672)),(74,.i),(75,.i),(76,.c x64)],[(1028672,.arr 5 false Ar)]⟩,[(6,⟨[(12,.c (xo 1032768))],[(1032768,.arr 5 false Ar)]⟩)])]⟩
def AcI:Sig:=.of [Sq6] [Dw] (fun a=>fG N a)
theorem Ah0:Dq 79 (AcI N):=Du (Dt [(153,uQ N)] Alm) Am5 Tryz.f79 N (Dp ⟨AdU N,trivial⟩)
def Ur:Sig:=.of [Dw,Dw,Dv] [Dv] (fun a=>NW N a.1 a.2.1 a.2.2)
theorem WY:Dq 302 (Ur N):=Du (Dt [(254,Uo N)] []) ⟨[],[]⟩ Tryz.f302 N (Dp ⟨WX N,trivial⟩)
def AbT:List (Nat×Nrm):=[(17,⟨[0,2,3],[],[],[],[]⟩)]
def Ad8:Lk:=⟨[(17,⟨[(0,.i),(2,.c AL),(3,.c xs)],[(33280,.box BP),(33281,.Ed 144 false Az)]⟩)],[]⟩
def Sr:Sig:=.of [Dv] [Sq1] (fun a=>H9 N a)
theorem Va:Dq 29 (Sr N):=Du (Dt [(94,jE N)] AbT) Ad8 Tryz.f29 N (Dp ⟨mY N,trivial⟩)
def VJ:Sig:=.of [Dw,Dv] [Dw,Dv] (fun a=>PL N a.1 a.2)
theorem Yj:Dq 76 (VJ N):=Du (Dt [(150,ZW N)] []) ⟨[],[]⟩ Tryz.f76 N (Dp ⟨eY N,trivial⟩)
def JL:Sig:=.of [Dv,Sq6] [Dw,Dv] (fun a=>Fb N a.1 a.2)
theorem IY:Dq 67 (JL N):=Du (Dt [(103,UB N)] []) ⟨[],[]⟩ Tryz.f67 N (Dp ⟨UC N,trivial⟩)
def Fp:Sig:=.of [Dv,Sq6] [Dw] (fun a=>DR N a.1 a.2)
theorem EM:Dq 43 (Fp N):=Du (Dt [(103,UB N)] []) ⟨[],[]⟩ Tryz.f43 N (Dp ⟨UC N,trivial⟩)
def Ajx:List (Nat×Nrm):=[(3,⟨[],[],[],[],[]⟩),(18,⟨[1,5],[],[],[],[]⟩)]
def AlC:Lk:=⟨[],[(18,⟨[(1,.i),(5,.c xs)],[]⟩,[(0,⟨[],[]⟩)])]⟩
def XT (N n:Nat):Sig:=.of [G9,.cell false (.int .i64)] [.cell false (.int .i64)] (fun a=>sV N n a.1 a.2)
theorem bD (N:Nat): ∀ n,Spec Tryz.prog 291 (XT N n)
 | 0=>Abd (C:=ctx Tryz.prog [] []) (fn:=Tryz.f291) (Dp (gs:=[]) trivial) (by kernel_rfl) (by kernel_rfl)
 | n+1=>Jf (C:=ctx Tryz.prog ((291,XT N n)::[(239,YK N)]) Ajx) (L:=AlC) (fn:=Tryz.f291) (N:=N) (Dp ⟨bD N n,⟨XR N,trivial⟩⟩)
def Abn:Sig:=XT N N
theorem Agk:Spec Tryz.prog 291 (Abn N):=bD N N
def AiO:List (Nat×Nrm):=[(3,⟨[5],[],[],[(37888,1004096),(1000000,1004096)],[]⟩),(26,⟨[5,22,23,24],[],[],[(37888,1000000),(40448,1000000)],[]⟩)]
def AkS:Lk:=⟨[],[(26,⟨[(5,.c (xo 1000000)),(22,.i),(23,.i),(24,.c x64)],[(1000000,.arr 5 true Ar)]⟩,[(0,⟨[(5,.c (xo 1004096))],[(1004096,.arr 5 true Ar)]⟩)])]⟩
def PK:Sig:=.of [Dw] [Dw,Dv] (fun a=>Lc N a)
theorem OL:Dq 122 (PK N):=Du (Dt [(207,qR N),(208,Aiq N)] AiO) AkS Tryz.f122 N (Dp ⟨uH N,AkU N,trivial⟩)
def XZ:Sig:=.of [.box [(false,.bool)],Dv,Ea] [Dw] (fun a=>dO N a.1 a.2.1 a.2.2)
theorem oZ:Dq 219 (XZ N):=Du (Dt [(216,QL N),(58,EO N)] []) ⟨[],[]⟩ Tryz.f219 N (Dp ⟨Uw N,EH N,trivial⟩)
def AmG:List (Nat×Nrm):=[(3,⟨[4],[([4],89,Tq5,1004096)],[],[(1000000,1004096)],[]⟩),(10,⟨[0,4],[([4],89,Tq5,1000000)],[],[(38400,1000000)],[]⟩)]
def Apq:Lk:=⟨[],[(10,⟨[(0,.c xs),(4,.c (xo 1000000))],[(1000000,.arr 89 false Tq5)]⟩,[(0,⟨[(4,.c (xo 1004096))],[(1004096,.arr 89 false Tq5)]⟩)])]⟩
def Hm:Sig:=.of [Dw] [.cell false (.sl 89 Tq5),Dv] (fun a=>Hy N a)
theorem Gp:Dq 192 (Hm N):=Du (Dt [(239,YK N)] AmG) Apq Tryz.f192 N (Dp ⟨XR N,trivial⟩)
def AiV:List (Nat×Nrm):=[(3,⟨[8],[],[],[],[]⟩),(46,⟨[4,8,35,36],[],[],[],[]⟩)]
def Ald:Lk:=⟨[],[(46,⟨[(4,.i),(8,.c x64),(35,.i),(36,.c x64)],[]⟩,[(0,⟨[(8,.c x64)],[]⟩)])]⟩
def ZV:Sig:=.of [Dw] [Dv,Dv] (fun a=>NC N a)
theorem eX:Dq 357 (ZV N):=Du (Dt [(113,Wn N),(402,AfG N)] AiV) Ald Tryz.f357 N (Dp ⟨VH N,AiW N,trivial⟩)
def pV:List (Nat×Nrm):=[(3,⟨[0,4],[],[(none,4,Ar)],[],[]⟩),(13,⟨[0,1],[],[],[],[]⟩),(22,⟨[0,4],[],[(none,4,Ar)],[],[41728]⟩)]
def wO:Lk:=⟨[(13,⟨[(0,.c AO),(1,.i)],[(0,.box BA)]⟩)],[(22,⟨[(0,.c AO),(4,.c Bo)],[(0,.box BA)]⟩,[(0,⟨[(0,.c AO),(4,.c Bo)],[(0,.box BA)]⟩)])]⟩
def UZ:Sig:=.of [Ark,Dw] [] (fun a=>LP N a.1 a.2)
theorem iO:Dq 388 (UZ N):=Du (Dt [(434,V8 N),(435,PD N)] pV) wO Tryz.f388 N (Dp ⟨Ye N,Tc N,trivial⟩)
def Q5:Sig:=.of [Sq5] [Dw,Dv] (fun a=>H7 N a)
theorem Xz:Dq 124 (Q5 N):=Du (Dt [(122,PK N),(123,Ho N)] []) ⟨[],[]⟩ Tryz.f124 N (Dp ⟨OL N,Gq N,trivial⟩)
def Kz:Sig:=.of [] [Dw] (fun _=>Iy N)
theorem LC:Dq 54 (Kz N):=Du (Dt [(122,PK N),(123,Ho N)] []) ⟨[],[]⟩ Tryz.f54 N (Dp ⟨OL N,Gq N,trivial⟩)
def GN:Sig:=.of [Dw,Dv] [G9,Dv] (fun a=>Iu N a.1 a.2)
theorem Ji:Dq 73 (GN N):=Du (Dt [(148,Qa N)] []) ⟨[],[]⟩ Tryz.f73 N (Dp ⟨MO N,trivial⟩)
def Md (N:Nat):Alt:=.of [.cell false .str] [Lp,.cell false (.int .i64)] [.cell false .ptr,.cell false (.int .i64)] (fun a=>TT N a)
theorem RY:Spec Tryz.prog 104 (Md N).1/\Spec Tryz.prog 104 (Md N).2.1:=MS (C:=ctx Tryz.prog [(192,Hm N)] []) (L:=⟨[],[]⟩) (fn:=Tryz.f104) (N:=N) (Dp ⟨Gp N,trivial⟩) (by kernel_rfl) (by kernel_rfl) (fun a=>by kernel_rfl)
def Kq:Sig:=.of [G9] [Dv] (fun a=>LD N a)
theorem MQ:Dq 112 (Kq N):=Du (Dt [(192,Hm N),(200,PI N)] []) ⟨[],[]⟩ Tryz.f112 N (Dp ⟨Gp N,OJ N,trivial⟩)
def Zx:List (Nat×Nrm):=[(85,⟨[2,4,5,7],[],[],[],[]⟩)]
def bW:Lk:=⟨[(85,⟨[(2,.c AL),(4,.c AU),(5,.i),(7,.i)],[(33280,.box [AB,AA,AB]),(33792,.box [AB,AA,AB])]⟩)],[]⟩
def Q4:Sig:=.of [G9] [Sq5,Dv] (fun a=>SQ N a)
theorem Xy:Dq 267 (Q4 N):=Du (Dt [(192,Hm N),(200,PI N)] Zx) bW Tryz.f267 N (Dp ⟨Gp N,OJ N,trivial⟩)
def AeB:List (Nat×Nrm):=[(3,⟨[1,4],[],[],[],[]⟩),(30,⟨[1,4,5],[],[],[],[]⟩)]
def Ag9:Lk:=⟨[],[(30,⟨[(1,.c AP),(4,.c x64),(5,.c x64)],[(33024,.box BQ)]⟩,[(0,⟨[(1,.c AP),(4,.c x64)],[(33024,.box BQ)]⟩)])]⟩
def lI:Sig:=.of [Sq7] [Dv,Dv] (fun a=>yZ N a)
theorem AbM:Dq 269 (lI N):=Du (Dt [(212,Xw N),(211,Xv N)] AeB [] [] [] [9,13,14,18,19,23,24,28,29,38,42,46,47,51,52,56,57,61,62,66]) Ag9 Tryz.f269 N (Dp ⟨Zt N,Zr N,trivial⟩)
def Adx:List (Nat×Nrm):=[(89,⟨[2,4,5,6],[],[],[],[]⟩)]
def AeQ:Lk:=⟨[(89,⟨[(2,.c AL),(4,.c AU),(5,.c AX),(6,.c Bl)],[(33280,.box [AB,AQ,AB]),(33792,.box [AB,AQ,AB]),(34048,.box [xs,xb,AB])]⟩)],[]⟩
def dP:Sig:=.of [G9] [An1,Dv] (fun a=>tY N a)
theorem zO:Dq 245 (dP N):=Du (Dt [(192,Hm N),(200,PI N),(307,VI N)] Adx) AeQ Tryz.f245 N (Dp ⟨Gp N,OJ N,Yi N,trivial⟩)
def Ahu:List (Nat×Nrm):=[(3,⟨[],[],[],[],[]⟩),(10,⟨[0,1,5],[],[],[],[]⟩)]
def AiY:Lk:=⟨[],[(10,⟨[(0,.i),(1,.i),(5,.c x64)],[]⟩,[(0,⟨[],[]⟩)])]⟩
def XC:Sig:=.of [.cell false (.int .u8),Dw] [Ea] (fun a=>QX N a.1 a.2)
theorem ZY:Dq 380 (XC N):=Du (Dt [] Ahu) AiY Tryz.f380 N (Dp trivial)
def Ahz:List (Nat×Nrm):=[(3,⟨[3],[([3],9,Aq,1012288)],[],[(1000000,1012288)],[]⟩),(11,⟨[3,5,6,10,11,12],[([3],9,Aq,1008192)],[],[(1004096,1008192)],[1008192]⟩),(14,⟨[3,10,11,12],[([3],9,Aq,1000000)],[],[(43008,1000000)],[]⟩),(19,⟨[7],[],[],[],[]⟩),(26,⟨[3,5,6,10,11,12],[([3],9,Aq,1004096)],[],[(1000000,1004096)],[]⟩),(50,⟨[7,42,43,44],[],[],[],[]⟩)]
def Aja:Lk:=⟨[],[(14,⟨[(3,.c (xo 1000000)),(10,.i),(11,.i),(12,.c x64)],[(1000000,.arr 9 false Aq)]⟩,[(0,⟨[(3,.c (xo 1012288))],[(1012288,.arr 9 false Aq)]⟩)]),(26,⟨[(3,.c (xo 1004096)),(5,.i),(6,.c x64),(10,.i),(11,.i),(12,.i)],[(1004096,.arr 9 false Aq)]⟩,[(2,⟨[(3,.c (xo 1008192)),(5,.i),(6,.c x64),(10,.i),(11,.i),(12,.i)],[(1008192,.arr 9 true Aq)]⟩)]),(50,⟨[(7,.c xs),(42,.c (xo 1012288)),(43,.i),(44,.c x64)],[(1012288,.arr 9 false Aq)]⟩,[(4,⟨[(7,.c xs)],[]⟩)])]⟩
def uN:Sig:=.of [Sq6] [Dw] (fun a=>Wp N a)
theorem AdR:Dq 135 (uN N):=Du (Dt [] Ahz) Aja Tryz.f135 N (Dp trivial)
def nG:Sig:=.of [Dv] [Dv] (fun a=>aG N a)
theorem AbY:Dq 231 (nG N):=Du (Dt [] []) ⟨[],[]⟩ Tryz.f231 N (Dp trivial)
def AaB:Sig:=.of [Dv,Dv] [Dv] (fun a=>rH N a.1 a.2)
theorem AfM:Dq 232 (AaB N):=Du (Dt [] [] [] [] [] [7,11,12,16,20,21]) ⟨[],[]⟩ Tryz.f232 N (Dp trivial)
def xA:List (Nat×Nrm):=[(3,⟨[4],[],[],[],[]⟩),(11,⟨[4],[],[(none,4,Ar)],[],[]⟩),(18,⟨[3,4,5],[([4],5,Ar,1000000)],[],[(37632,1000000)],[]⟩),(30,⟨[4],[],[(none,4,Ar)],[],[]⟩)]
def Aa9:Lk:=⟨[],[(18,⟨[(3,.i),(4,.c (xo 1000000)),(5,.c x64)],[(1000000,.arr 5 false Ar)]⟩,[(0,⟨[(4,.c (xo 1000000))],[(1000000,.arr 5 false Ar)]⟩)]),(30,⟨[(4,.c Bo)],[]⟩,[(2,⟨[(4,.c Bo)],[]⟩)])]⟩
def Xe:Sig:=.of [Dv] [Dw] (fun a=>NF N a)
theorem nD:Dq 141 (Xe N):=Du (Dt [] xA [] [] [] [23,28,33,34,39,44,45,46]) Aa9 Tryz.f141 N (Dp trivial)
def Ah5:List (Nat×Nrm):=[(3,⟨[5],[([5],9,Aq,1004096)],[],[(1000000,1004096)],[]⟩),(18,⟨[0,1,5,6,7],[([5],9,Aq,1000000)],[],[(40704,1000000)],[]⟩)]
def Aji:Lk:=⟨[],[(18,⟨[(0,.i),(1,.i),(5,.c (xo 1000000)),(6,.c x64),(7,.c x64)],[(1000000,.arr 9 false Aq)]⟩,[(0,⟨[(5,.c (xo 1004096))],[(1004096,.arr 9 false Aq)]⟩)])]⟩
def XI:Sig:=.of [Dw,.cell false (.int .u8)] [Sq6] (fun a=>Wq N a.1 a.2)
theorem aJ:Dq 433 (XI N):=Du (Dt [] Ah5) Aji Tryz.f433 N (Dp trivial)
def Ah4:List (Nat×Nrm):=[(3,⟨[],[],[],[],[]⟩),(26,⟨[0,3,4,5],[],[],[],[]⟩)]
def Ajh:Lk:=⟨[],[(26,⟨[(0,.i),(3,.i),(4,.c xb),(5,.c x64)],[]⟩,[(0,⟨[],[]⟩)])]⟩
def uS:Sig:=.of [Dw] [Ea] (fun a=>jH N a)
theorem AdV:Dq 385 (uS N):=Du (Dt [] Ah4 [] [] [] [37,39,40,43,54,55]) Ajh Tryz.f385 N (Dp trivial)
def fJ:Sig:=.of [Dw] [Ea] (fun a=>XG N a)
theorem AaD:Dq 386 (fJ N):=Du (Dt [] []) ⟨[],[]⟩ Tryz.f386 N (Dp trivial)
def Ajo:List (Nat×Nrm):=[(3,⟨[4],[],[],[],[]⟩),(10,⟨[1,4,8,9,10],[],[],[],[]⟩)]
def Alu:Lk:=⟨[],[(10,⟨[(1,.i),(4,.c AU),(8,.i),(9,.i),(10,.c x64)],[(33792,.box [AB,AQ,AB])]⟩,[(0,⟨[(4,.c AU)],[(33792,.box [AB,AQ,AB])]⟩)])]⟩
def aQ:Sig:=.of [.cell false (.sl 176 Tq4),Dw] [An1,Ea] (fun a=>UF N a.1 a.2)
theorem fP:Dq 229 (aQ N):=Du (Dt [] Ajo) Alu Tryz.f229 N (Dp trivial)
def PN:Sig:=.of [Ea] [Dw] (fun a=>ND N a)
theorem Tn:Dq 263 (PN N):=Du (Dt [] []) ⟨[],[]⟩ Tryz.f263 N (Dp trivial)
def AbW:List (Nat×Nrm):=[(3,⟨[0,4],[],[],[],[]⟩),(11,⟨[6],[],[],[],[]⟩),(22,⟨[0,4,5],[],[],[],[]⟩),(50,⟨[0,4,6,7],[],[],[],[]⟩)]
def AdS:Lk:=⟨[],[(22,⟨[(0,.i),(4,.c x64),(5,.c x64)],[]⟩,[(0,⟨[(0,.i),(4,.c x64)],[]⟩)]),(50,⟨[(0,.i),(4,.i),(6,.c (xo 40192)),(7,.c x64)],[(40192,.arr 5 false Ar)]⟩,[(2,⟨[(6,.c (xo 40192))],[(40192,.arr 5 false Ar)]⟩)])]⟩
def aB:Sig:=.of [Dv] [Dw,Dv] (fun a=>JV N a)
theorem wZ:Dq 264 (aB N):=Du (Dt [] AbW) AdS Tryz.f264 N (Dp trivial)
def EX:Sig:=.of [TD,Dv] [Dv] (fun a=>DN N a.1 a.2)
theorem EK:Dq 35 (EX N):=Du (Dt [] []) ⟨[],[]⟩ Tryz.f35 N (Dp trivial)
def AaO:Sig:=.of [] [FW] (fun _=>rW N)
theorem AfT:Dq 144 (AaO N):=Du (Dt [] []) ⟨[],[]⟩ Tryz.f144 N (Dp trivial)
def Aa7:List (Nat×Nrm):=[(3,⟨[6],[([6],5,Ar,1020480)],[],[(1000000,1020480)],[]⟩),(11,⟨[6,9,30,31,32],[([6],5,Ar,1008192)],[],[(1004112,1008192)],[]⟩),(19,⟨[6,9,30,31,32],[([6],5,Ar,1016384)],[],[(1012288,1016384)],[]⟩),(30,⟨[6,30,31,32],[([6],5,Ar,1000000)],[],[(48384,1000000)],[]⟩),(42,⟨[6,8,9,30,31,32],[([9],5,Ar,1004096),([6],5,Ar,1004112)],[],[(43264,1004096),(1000000,1004112)],[]⟩),(58,⟨[6,9,10,30,31,32],[([6],5,Ar,1012288)],[],[(1008192,1012288)],[]⟩)]
def AbV:Lk:=⟨[],[(30,⟨[(6,.c (xo 1000000)),(30,.c (xo 40192)),(31,.i),(32,.c x64)],[(40192,.arr 3 false Au),(1000000,.arr 5 false Ar)]⟩,[(0,⟨[(6,.c (xo 1020480))],[(1020480,.arr 5 false Ar)]⟩)]),(42,⟨[(6,.c (xo 1004112)),(8,.c x64),(9,.c (xo 1004096)),(30,.c (xo 40192)),(31,.i),(32,.i)],[(40192,.arr 3 false Au),(1004096,.arr 5 false Ar),(1004112,.arr 5 false Ar)]⟩,[(2,⟨[(6,.c (xo 1008192)),(9,.c (xo 43264)),(30,.c (xo 40192)),(31,.i),(32,.i)],[(40192,.arr 3 false Au),(43264,.arr 5 false Ar),(1008192,.arr 5 false Ar)]⟩)]),(58,⟨[(6,.c (xo 1012288)),(9,.c (xo 43264)),(10,.c x64),(30,.c (xo 40192)),(31,.i),(32,.i)],[(40192,.arr 3 false Au),(43264,.arr 5 false Ar),(1012288,.arr 5 false Ar)]⟩,[(4,⟨[(6,.c (xo 1016384)),(9,.c (xo 43264)),(30,.c (xo 40192)),(31,.i),(32,.i)],[(40192,.arr 3 false Au),(43264,.arr 5 false Ar),(1016384,.arr 5 false Ar)]⟩)])]⟩
def Yk:Sig:=.of [Dw] [Dw,Dv] (fun a=>fD N a)
theorem rE:Dq 236 (Yk N):=Du (Dt [(295,aF N)] Aa7) AbV Tryz.f236 N (Dp ⟨fH N,trivial⟩)
def jF:Sig:=.of [Dw] [G9,Dv] (fun a=>Xd N a)
theorem nC:Dq 40 (jF N):=Du (Dt [(102,aC N)] []) ⟨[],[]⟩ Tryz.f40 N (Dp ⟨fF N,trivial⟩)
def IW:Sig:=.of [Dw] [Ea] (fun a=>Gw N a)
theorem IG:Dq 227 (IW N):=Du (Dt [(295,aF N)] []) ⟨[],[]⟩ Tryz.f227 N (Dp ⟨fH N,trivial⟩)
def AaA:List (Nat×Nrm):=[(7,⟨[],[],[],[],[]⟩),(25,⟨[0,1,11],[],[],[],[]⟩),(30,⟨[0,1,5],[],[],[],[]⟩)]
def AbX:Lk:=⟨[(25,⟨[(0,.i),(1,.i),(11,.c xb)],[]⟩)],[(30,⟨[(0,.i),(1,.i),(5,.c x64)],[]⟩,[(1,⟨[],[]⟩)])]⟩
def Yl:Sig:=.of [Dv,Dw] [Ea] (fun a=>UA N a.1 a.2)
theorem rF:Dq 293 (Yl N):=Du (Dt [(378,AaC N),(379,RD N),(380,XC N)] AaA [] [] [] [22,27,32,33,34,37,43,44,50,51]) AbX Tryz.f293 N (Dp ⟨AfO N,SA N,ZY N,trivial⟩)
def Ahw:List (Nat×Nrm):=[(3,⟨[0,2,4,5],[],[],[],[]⟩),(11,⟨[0,2,4,5,6],[],[],[],[]⟩),(22,⟨[0,2,4,5],[],[],[],[]⟩),(38,⟨[0,2,4,5,6],[],[],[],[]⟩)]
def AiZ:Lk:=⟨[],[(22,⟨[(0,.i),(2,.c AL),(4,.i),(5,.c x64)],[(33280,.box BJ)]⟩,[(0,⟨[(0,.i),(2,.c AL),(4,.i),(5,.c x64)],[(33280,.box BJ)]⟩)]),(38,⟨[(0,.i),(2,.c AL),(4,.c x64),(5,.i),(6,.c x64)],[(33280,.box BJ)]⟩,[(2,⟨[(0,.i),(2,.c AL),(4,.c x64),(5,.i),(6,.c x64)],[(33280,.box BJ)]⟩)])]⟩
def uM:Sig:=.of [Dv] [Sq7,Dv] (fun a=>AcH N a)
theorem AdQ:Dq 137 (uM N):=Du (Dt [(231,nG N),(232,AaB N)] Ahw) AiZ Tryz.f137 N (Dp ⟨AbY N,AfM N,trivial⟩)
def Alp:List (Nat×Nrm):=[(3,⟨[5],[],[],[],[]⟩),(10,⟨[1,5],[],[],[],[]⟩)]
def Am6:Lk:=⟨[],[(10,⟨[(1,.i),(5,.c xs)],[]⟩,[(0,⟨[(5,.c xs)],[]⟩)])]⟩
def AcJ:Sig:=.of [Dv,Dv] [Dw] (fun a=>MR N a.1 a.2)
theorem Ah2:Dq 138 (AcJ N):=Du (Dt [(94,jE N)] Alp) Am6 Tryz.f138 N (Dp ⟨mY N,trivial⟩)
def Alr:List (Nat×Nrm):=[(3,⟨[],[],[],[],[]⟩),(11,⟨[10,11,12],[],[],[],[]⟩),(18,⟨[10,11,12],[],[],[],[]⟩),(38,⟨[4,5,10,11,12],[],[],[],[]⟩)]
def Am7:Lk:=⟨[],[(18,⟨[(10,.i),(11,.i),(12,.c x64)],[]⟩,[(0,⟨[],[]⟩)]),(38,⟨[(4,.i),(5,.c x64),(10,.i),(11,.i),(12,.i)],[]⟩,[(2,⟨[(10,.i),(11,.i),(12,.i)],[]⟩)])]⟩
def Rf:Sig:=.of [Dw] [Ea] (fun a=>I5 N a)
theorem Qs:Dq 431 (Rf N):=Du (Dt [(433,XI N),(379,RD N)] Alr [] [] [] [19,23,24,28,29,36]) Am7 Tryz.f431 N (Dp ⟨aJ N,SA N,trivial⟩)
def Aad:List (Nat×Nrm):=[(3,⟨[3,4,5],[],[],[(41984,1008192),(1004096,1008192)],[1008192]⟩),(11,⟨[3,4],[],[],[],[]⟩),(19,⟨[3],[],[],[],[]⟩),(27,⟨[7],[],[],[],[]⟩),(29,⟨[3,4,5],[([4],5,Ar,1000000)],[],[(41216,1000000)],[]⟩),(34,⟨[3,4,5],[],[],[(41984,1004096),(43776,1004096)],[]⟩),(46,⟨[3,4,5,6],[],[],[(47616,1008192)],[]⟩),(58,⟨[3,4],[],[(none,4,Ar)],[],[]⟩),(78,⟨[7,68,69],[([7],5,Ar,1028672)],[],[(54528,1028672)],[]⟩)]
def AbO:Lk:=⟨[(29,⟨[(3,.c (.c (.Eg 33536 0 0))),(4,.c (xo 1000000)),(5,.c x64)],[(0,.box BA),(33536,.arr 392 false Aw),(1000000,.arr 5 false Ar)]⟩)],[(34,⟨[(3,.c (.c (.Eg 33536 0 0))),(4,.c (xo 1004096)),(5,.i)],[(0,.box BA),(33536,.arr 392 false Aw),(1004096,.arr 5 false Ar)]⟩,[(0,⟨[(3,.c (.c (.Eg 33536 0 0))),(4,.c (xo 1008192)),(5,.i)],[(0,.box BA),(33536,.arr 392 false Aw),(1008192,.arr 5 true Ar)]⟩)]),(46,⟨[(3,.c (.c (.Eg 33536 0 0))),(4,.c (xo 1008192)),(5,.i),(6,.c x64)],[(0,.box BA),(33536,.arr 392 false Aw),(1008192,.arr 5 true Ar)]⟩,[(2,⟨[(3,.c (.c (.Eg 33536 0 0))),(4,.c (xo 1008192))],[(0,.box BA),(33536,.arr 392 false Aw),(1008192,.arr 5 true Ar)]⟩)]),(58,⟨[(3,.c (.c (.Eg 33536 0 0))),(4,.c Bo)],[(0,.box BA),(33536,.arr 392 false Aw)]⟩,[(4,⟨[(3,.c (.c (.Eg 33536 0 0)))],[(0,.box BA),(33536,.arr 392 false Aw)]⟩)]),(78,⟨[(7,.c (xo 1028672)),(68,.i),(69,.c x64)],[(0,.box BA),(1028672,.arr 5 false Ar)]⟩,[(6,⟨[(7,.c (xo 1028672))],[(0,.box BA),(1028672,.arr 5 false Ar)]⟩)])]⟩
def Yd:Sig:=.of [Ark] [Dw] (fun a=>OH N a)
theorem pU:Dq 389 (Yd N):=Du (Dt [(434,V8 N),(435,PD N)] Aad) AbO Tryz.f389 N (Dp ⟨Ye N,Tc N,trivial⟩)
def iW:Sig:=.of [Dv] [Dw] (fun a=>KZ N a)
theorem mF:Dq 22 (iW N):=Du (Dt [(80,AfS N),(79,AcI N)] []) ⟨[],[]⟩ Tryz.f22 N (Dp ⟨Ajm N,Ah0 N,trivial⟩)
def UM:Sig:=.of [AcW] [Dv] (fun a=>PV N a)
theorem cZ:Dq 154 (UM N):=Du (Dt [(92,JJ N),(152,JF N)] []) ⟨[],[]⟩ Tryz.f154 N (Dp ⟨KG N,KE N,trivial⟩)
def Ri:Sig:=.of [Dw] [Dw] (fun a=>JM N a)
theorem Qu:Dq 142 (Ri N):=Du (Dt [(236,Yk N),(43,Fp N)] []) ⟨[],[]⟩ Tryz.f142 N (Dp ⟨rE N,EM N,trivial⟩)
def uY:Sig:=.of [Dw,Dv] [G9,Dv] (fun a=>Wu N a.1 a.2)
theorem Aeb:Dq 77 (uY N):=Du (Dt [(40,jF N)] []) ⟨[],[]⟩ Tryz.f77 N (Dp ⟨nC N,trivial⟩)
def aN:List (Nat×Nrm):=[(3,⟨[],[],[],[],[]⟩),(10,⟨[0,6,7,8],[],[],[],[]⟩),(11,⟨[0,6,7,8],[],[],[],[]⟩),(46,⟨[0,3,4,5,6,7,8],[],[],[],[]⟩)]
def bZ:Lk:=⟨[],[(10,⟨[(0,.i),(6,.i),(7,.i),(8,.c x64)],[]⟩,[(0,⟨[],[]⟩)]),(46,⟨[(0,.i),(3,.i),(4,.c AU),(5,.c x64),(6,.i),(7,.i),(8,.i)],[(33792,.box [xs,x64,xs])]⟩,[(2,⟨[(0,.i),(6,.i),(7,.i),(8,.i)],[]⟩)])]⟩
def Q7:Sig:=.of [.cell false (.sl 143 Tq0)] [Dv] (fun a=>J3 N a)
theorem XJ:Dq 220 (Q7 N):=Du (Dt [(227,IW N),(293,Yl N)] aN) bZ Tryz.f220 N (Dp ⟨IG N,rF N,trivial⟩)
def Xc:Sig:=.of [Dv] [Dw,Dv] (fun a=>IV N a)
theorem mZ:Dq 64 (Xc N):=Du (Dt [(137,uM N),(138,AcJ N),(103,UB N)] []) ⟨[],[]⟩ Tryz.f64 N (Dp ⟨AdQ N,Ah2 N,UC N,trivial⟩)
def VO:Sig:=.of [Dv,Dv] [Dw] (fun a=>FC N a.1 a.2)
theorem Yu:Dq 68 (VO N):=Du (Dt [(141,Xe N),(43,Fp N)] []) ⟨[],[]⟩ Tryz.f68 N (Dp ⟨nD N,EM N,trivial⟩)
def X8:Sig:=.of [Dv] [Dw] (fun a=>Oe N a)
theorem ZG:Dq 237 (X8 N):=Du (Dt [] []) ⟨[],[]⟩ Tryz.f237 N (Dp trivial)
def Aco:Sig:=.of [Dv] [Ea] (fun a=>dK N a)
theorem Ag0:Dq 164 (Aco N):=Du (Dt [] []) ⟨[],[]⟩ Tryz.f164 N (Dp trivial)
def lG:Sig:=.of [Dv] [Ea] (fun a=>Jh N a)
theorem AbK:Dq 247 (lG N):=Du (Dt [] []) ⟨[],[]⟩ Tryz.f247 N (Dp trivial)
def Qh:Sig:=.of [] [.cell false (.sl 283 Tq6)] (fun _=>TM N)
theorem QF:Dq 252 (Qh N):=Du (Dt [] []) ⟨[],[]⟩ Tryz.f252 N (Dp trivial)
def Adj:Sig:=.of [FW] [Ea] (fun a=>Vp N a)
theorem vZ:Dq 310 (Adj N):=Du (Dt [] []) ⟨[],[]⟩ Tryz.f310 N (Dp trivial)
def Adk:Sig:=.of [FW] [Ea] (fun a=>Vq N a)
theorem wB:Dq 313 (Adk N):=Du (Dt [] []) ⟨[],[]⟩ Tryz.f313 N (Dp trivial)
def Adl:Sig:=.of [FW] [Ea] (fun a=>Vr N a)
theorem wE:Dq 316 (Adl N):=Du (Dt [] []) ⟨[],[]⟩ Tryz.f316 N (Dp trivial)
def Adm:Sig:=.of [FW] [Ea] (fun a=>Vs N a)
theorem wF:Dq 319 (Adm N):=Du (Dt [] []) ⟨[],[]⟩ Tryz.f319 N (Dp trivial)
def Ah1:List (Nat×Nrm):=[(3,⟨[],[],[],[],[]⟩),(18,⟨[1,5],[],[],[],[]⟩)]
def Aje:Lk:=⟨[],[(18,⟨[(1,.i),(5,.c xs)],[]⟩,[(0,⟨[],[]⟩)])]⟩
def VM (N n:Nat):Sig:=.of [G9,.cell false (.int .i64)] [.cell false (.int .i64)] (fun a=>LK N n a.1 a.2)
theorem Ym (N:Nat): ∀ n,Spec Tryz.prog 297 (VM N n)
 | 0=>Abd (C:=ctx Tryz.prog [] []) (fn:=Tryz.f297) (Dp (gs:=[]) trivial) (by kernel_rfl) (by kernel_rfl)
 | n+1=>Jf (C:=ctx Tryz.prog ((297,VM N n)::[(102,aC N)]) Ah1) (L:=Aje) (fn:=Tryz.f297) (N:=N) (Dp ⟨Ym N n,⟨fF N,trivial⟩⟩)
def uP:Sig:=VM N N
theorem AdT:Spec Tryz.prog 297 (uP N):=Ym N N
def Ac7:Sig:=.of [TD] [Dv] (fun a=>WO N a)
theorem Ahe:Dq 36 (Ac7 N):=Du (Dt [(35,EX N)] []) ⟨[],[]⟩ Tryz.f36 N (Dp ⟨EK N,trivial⟩)
def ZH:Sig:=.of [TD] [Sq5] (fun a=>Qq N a)
theorem wV:Dq 143 (ZH N):=Du (Dt [(35,EX N)] []) ⟨[],[]⟩ Tryz.f143 N (Dp ⟨EK N,trivial⟩)
def AkJ:List (Nat×Nrm):=[(3,⟨[5],[([5],9,Aq,1016384)],[],[(1000000,1016384)],[]⟩),(11,⟨[0,1,5,6,7,8],[([5],9,Aq,1012288)],[],[(1008192,1012288)],[]⟩),(14,⟨[0,1,5,6],[([5],9,Aq,1000000)],[],[(44288,1000000),(1012288,1000000)],[]⟩),(33,⟨[0,1,5,6,7],[([5],9,Aq,1004096)],[],[(1000000,1004096)],[]⟩),(42,⟨[0,1,5,6,7,8,27,28,29],[([5,27],9,Aq,1008192)],[],[(1004096,1008192)],[]⟩)]
def Amu:Lk:=⟨[(33,⟨[(0,.c AO),(1,.i),(5,.c (xo 1004096)),(6,.i),(7,.c xs)],[(0,.box BG),(1004096,.arr 9 false Aq)]⟩)],[(14,⟨[(0,.c AO),(1,.i),(5,.c (xo 1000000)),(6,.c x64)],[(0,.box BG),(1000000,.arr 9 false Aq)]⟩,[(0,⟨[(5,.c (xo 1016384))],[(0,.box BG),(1016384,.arr 9 false Aq)]⟩)]),(42,⟨[(0,.c AO),(1,.i),(5,.c (xo 1008192)),(6,.i),(7,.i),(8,.c xb),(27,.c (xo 1008192)),(28,.i),(29,.c x64)],[(0,.box BG),(1008192,.arr 9 false Aq)]⟩,[(2,⟨[(0,.c AO),(1,.i),(5,.c (xo 1012288)),(6,.i),(7,.i),(8,.c xb)],[(0,.box BG),(1012288,.arr 9 false Aq)]⟩)])]⟩
def Ac8:Sig:=.of [TD,Ea] [Sq6] (fun a=>WQ N a.1 a.2)
theorem Ahf:Dq 145 (Ac8 N):=Du (Dt [(35,EX N),(237,X8 N)] AkJ) Amu Tryz.f145 N (Dp ⟨EK N,ZG N,trivial⟩)
def AdA:List (Nat×Nrm):=[(3,⟨[3],[([3],267,(.str Aq),1012288)],[],[(1000000,1012288)],[]⟩),(11,⟨[0,3,4,5,6],[([3],267,(.str Aq),1008192)],[],[(1004096,1008192)],[]⟩),(14,⟨[0,3,4],[([3],267,(.str Aq),1000000)],[],[(43264,1000000),(1008192,1000000)],[]⟩),(34,⟨[0,3,4,5,6,23,24,25],[([3,23],267,(.str Aq),1004096)],[],[(1000000,1004096)],[]⟩)]
def Afz:Lk:=⟨[],[(14,⟨[(0,.c AO),(3,.c (xo 1000000)),(4,.c x64)],[(0,.box BG),(1000000,.arr 267 false (.str Aq))]⟩,[(0,⟨[(3,.c (xo 1012288))],[(0,.box BG),(1012288,.arr 267 false (.str Aq))]⟩)]),(34,⟨[(0,.c AO),(3,.c (xo 1004096)),(4,.i),(5,.c AX),(6,.c xb),(23,.c (xo 1004096)),(24,.i),(25,.c x64)],[(0,.box BG),(34048,.box [xs,xs]),(1004096,.arr 267 false (.str Aq))]⟩,[(2,⟨[(0,.c AO),(3,.c (xo 1008192)),(4,.i),(5,.c AX),(6,.c xb)],[(0,.box BG),(34048,.box [xs,xs]),(1008192,.arr 267 false (.str Aq))]⟩)])]⟩
def dZ:Sig:=.of [TD] [Arm] (fun a=>Rx N a)
theorem Aas:Dq 146 (dZ N):=Du (Dt [(35,EX N),(237,X8 N)] AdA) Afz Tryz.f146 N (Dp ⟨EK N,ZG N,trivial⟩)
def Ae5:List (Nat×Nrm):=[(3,⟨[2],[],[],[],[]⟩),(10,⟨[0,2,6,7,8],[],[],[],[]⟩)]
def Ag2:Lk:=⟨[],[(10,⟨[(0,.i),(2,.c AL),(6,.i),(7,.i),(8,.c x64)],[(33280,.box BL)]⟩,[(0,⟨[(2,.c AL)],[(33280,.box BL)]⟩)])]⟩
def Vo:Sig:=.of [Dw] [AvT,Ea] (fun a=>Zd N a)
theorem XX:Dq 308 (Vo N):=Du (Dt [(252,Qh N)] Ae5) Ag2 Tryz.f308 N (Dp ⟨QF N,trivial⟩)
def Ah7:List (Nat×Nrm):=[(3,⟨[0,5],[],[],[],[]⟩),(11,⟨[0,5],[],[],[],[]⟩),(18,⟨[0,5],[],[],[],[]⟩),(38,⟨[0,5,6],[],[],[],[]⟩)]
def Ajk:Lk:=⟨[],[(18,⟨[(0,.i),(5,.c x64)],[]⟩,[(0,⟨[(0,.i),(5,.c x64)],[]⟩)]),(38,⟨[(0,.i),(5,.i),(6,.c x64)],[]⟩,[(2,⟨[(0,.i),(5,.i)],[]⟩)])]⟩
def uT:Sig:=.of [Dw] [Dw,Dw,Ea] (fun a=>AcK N a)
theorem AdW:Dq 432 (uT N):=Du (Dt [(431,Rf N),(379,RD N),(380,XC N)] Ah7 [] [] [] [24,27,28,33,34,41,42,46,47,53,64,70,71,76,82,83]) Ajk Tryz.f432 N (Dp ⟨Qs N,SA N,ZY N,trivial⟩)
def AaE:Sig:=.of [Dw] [Ea] (fun a=>rJ N a)
theorem AfP:Dq 383 (AaE N):=Du (Dt [(431,Rf N)] []) ⟨[],[]⟩ Tryz.f383 N (Dp ⟨Qs N,trivial⟩)
def fO:Sig:=.of [Dw] [Ea] (fun a=>XH N a)
theorem AaI:Dq 384 (fO N):=Du (Dt [(431,Rf N),(433,XI N)] [] [] [] [] [5,9,13,14,18,19,23,24,29,30]) ⟨[],[]⟩ Tryz.f384 N (Dp ⟨Qs N,aJ N,trivial⟩)
def XD:Sig:=.of [Dw] [Dv] (fun a=>QY N a)
theorem ZZ:Dq 230 (XD N):=Du (Dt [(40,jF N),(297,uP N)] []) ⟨[],[]⟩ Tryz.f230 N (Dp ⟨nC N,AdT N,trivial⟩)
def fQ:Sig:=.of [Dv,Ea] [Dw] (fun a=>XL N a.1 a.2)
theorem AaQ:Dq 188 (fQ N):=Du (Dt [(263,PN N),(43,Fp N)] []) ⟨[],[]⟩ Tryz.f188 N (Dp ⟨Tn N,EM N,trivial⟩)
def XM:Sig:=.of [Dv,Dv] [Dw] (fun a=>Jd N a.1 a.2)
theorem aT:Dq 189 (XM N):=Du (Dt [(264,aB N),(43,Fp N)] []) ⟨[],[]⟩ Tryz.f189 N (Dp ⟨wZ N,EM N,trivial⟩)
def AkI:List (Nat×Nrm):=[(3,⟨[2,3],[],[],[(33637,1012288),(1000000,1012288)],[]⟩),(11,⟨[0,2,3,4,5],[([5],143,Tq0,1008192)],[],[(33637,1008208),(1004096,1008192),(1004112,1008208)],[]⟩),(14,⟨[0,2,3,4],[],[],[(33637,1000000),(44288,1000000)],[]⟩),(30,⟨[0,2,3,4,5,6],[([5],143,Tq0,1004096)],[],[(33637,1004112),(43008,1004096),(1000000,1004112)],[]⟩)]
def Amt:Lk:=⟨[],[(14,⟨[(0,.c AO),(2,.c AL),(3,.c AV),(4,.c x64)],[(0,.box BG),(33280,.box BP),(33281,.Ed 144 false Az),(33536,.box [(xo 1000000)]),(1000000,.arr 144 false Az)]⟩,[(0,⟨[(2,.c AL),(3,.c AV)],[(0,.box BG),(33280,.box BP),(33281,.Ed 144 false Az),(33536,.box [(xo 1012288)]),(1012288,.arr 144 false Az)]⟩)]),(30,⟨[(0,.c AO),(2,.c AL),(3,.c AV),(4,.i),(5,.c (xo 1004096)),(6,.c x64)],[(0,.box BG),(33280,.box BP),(33281,.Ed 144 false Az),(33536,.box [(xo 1004112)]),(1004096,.arr 143 false Tq0),(1004112,.arr 144 false Az)]⟩,[(2,⟨[(0,.c AO),(2,.c AL),(3,.c AV),(4,.i),(5,.c (xo 1008192))],[(0,.box BG),(33280,.box BP),(33281,.Ed 144 false Az),(33536,.box [(xo 1008208)]),(1008192,.arr 143 false Tq0),(1008208,.arr 144 false Az)]⟩)])]⟩
def We:Sig:=.of [TD] [Sq1] (fun a=>Ti N a)
theorem VB:Dq 70 (We N):=Du (Dt [(35,EX N),(143,ZH N)] AkI) Amt Tryz.f70 N (Dp ⟨EK N,wV N,trivial⟩)
def Amh:List (Nat×Nrm):=[(3,⟨[3],[],[],[],[]⟩),(14,⟨[3,7,8,9],[],[],[],[]⟩)]
def Aos:Lk:=⟨[],[(14,⟨[(3,.c Bc),(7,.i),(8,.i),(9,.c x64)],[(34304,.box BA)]⟩,[(0,⟨[(3,.c Bc)],[(34304,.box BA)]⟩)])]⟩
def Afd:Sig:=.of [Sq6] [Dw] (fun a=>pW N a)
theorem AiE:Dq 301 (Afd N):=Du (Dt [(387,Aac N),(388,UZ N),(389,Yd N)] Amh) Aos Tryz.f301 N (Dp ⟨Afc N,iO N,pU N,trivial⟩)
def LU:Sig:=.of [] [Dw] (fun _=>Iq N)
theorem NJ:Dq 69 (LU N):=Du (Dt [(142,Ri N),(43,Fp N)] []) ⟨[],[]⟩ Tryz.f69 N (Dp ⟨Qu N,EM N,trivial⟩)
def AaF:List (Nat×Nrm):=[(3,⟨[],[],[],[],[]⟩),(18,⟨[11,12,13],[],[],[],[]⟩)]
def AbZ:Lk:=⟨[],[(18,⟨[(11,.i),(12,.i),(13,.c x64)],[]⟩,[(0,⟨[],[]⟩)])]⟩
def JC:Sig:=.of [Sq1] [Dv] (fun a=>GU N a)
theorem JH:Dq 132 (JC N):=Du (Dt [(220,Q7 N)] AaF) AbZ Tryz.f132 N (Dp ⟨XJ N,trivial⟩)
def xG:List (Nat×Nrm):=[(3,⟨[3],[([3],9,Aq,1004096)],[],[(1000000,1004096)],[]⟩),(14,⟨[3,6,7,8],[([3],9,Aq,1000000)],[],[(39168,1000000)],[]⟩)]
def AaJ:Lk:=⟨[],[(14,⟨[(3,.c (xo 1000000)),(6,.i),(7,.i),(8,.c x64)],[(1000000,.arr 9 false Aq)]⟩,[(0,⟨[(3,.c (xo 1004096))],[(1004096,.arr 9 false Aq)]⟩)])]⟩
def Xf:Sig:=.of [.cell false (.sl 143 Tq0)] [Sq6] (fun a=>NH N a)
theorem nJ:Dq 136 (Xf N):=Du (Dt [(142,Ri N),(43,Fp N)] xG) AaJ Tryz.f136 N (Dp ⟨Qu N,EM N,trivial⟩)
def aI:Sig:=.of [Dw] [Ea] (fun a=>YE N a)
theorem fK:Dq 382 (aI N):=Du (Dt [(432,uT N)] []) ⟨[],[]⟩ Tryz.f382 N (Dp ⟨AdW N,trivial⟩)
def AaR:List (Nat×Nrm):=[(3,⟨[],[],[],[],[]⟩),(10,⟨[0,8,9,10],[],[],[],[]⟩)]
def Acb:Lk:=⟨[],[(10,⟨[(0,.i),(8,.i),(9,.i),(10,.c x64)],[]⟩,[(0,⟨[],[]⟩)])]⟩
def Yp:Sig:=.of [.cell false (.sl 176 Tq4)] [Dv] (fun a=>OQ N a)
theorem rX:Dq 351 (Yp N):=Du (Dt [(227,IW N),(229,aQ N),(230,XD N)] AaR) Acb Tryz.f351 N (Dp ⟨IG N,fP N,ZZ N,trivial⟩)
def VA:Sig:=.of [TD] [Sq2] (fun a=>MF N a)
theorem Yg:Dq 37 (VA N):=Du (Dt [(35,EX N),(70,We N)] []) ⟨[],[]⟩ Tryz.f37 N (Dp ⟨EK N,VB N,trivial⟩)
def Ag7:List (Nat×Nrm):=[(33,⟨[1,6],[],[],[],[]⟩),(69,⟨[1,6,7],[],[],[],[]⟩)]
def Ai6:Lk:=⟨[(33,⟨[(1,.i),(6,.c x64)],[]⟩),(69,⟨[(1,.i),(6,.i),(7,.c x64)],[]⟩)],[]⟩
def tV:Sig:=.of [Dv,Dw] [Dv,Dv] (fun a=>iH N a.1 a.2)
theorem Adt:Dq 195 (tV N):=Du (Dt [(268,Xx N),(270,zC N),(269,lI N)] Ag7) Ai6 Tryz.f195 N (Dp ⟨Zu N,AeE N,AbM N,trivial⟩)
def GV (N:Nat):Alt:=.of [Lp] [Lp,.cell false (.int .i64)] [.cell false .ptr,.cell false (.int .i64)] (fun a=>JA N a)
theorem Jt:Spec Tryz.prog 197 (GV N).1/\Spec Tryz.prog 197 (GV N).2.1:=MS (C:=ctx Tryz.prog [(45,FM N)] [] [(104,Md N)]) (L:=⟨[],[]⟩) (fn:=Tryz.f197) (N:=N) (Dp ⟨Fz N,trivial⟩ ⟨RY N,trivial⟩) (by kernel_rfl) (by kernel_rfl) (fun a=>by kernel_rfl)
def JY:Sig:=.of [Sq6] [Dw] (fun a=>Gy N a)
theorem Ju:Dq 240 (JY N):=Du (Dt [(301,Afd N)] []) ⟨[],[]⟩ Tryz.f240 N (Dp ⟨AiE N,trivial⟩)
def J5:Sig:=.of [.box [(false,.bool)],.box [(false,.str)],.box [(false,.str)]] [Dw] (fun a=>Ie N a.1 a.2.1 a.2.2)
theorem Adc:Dq 75 (J5 N):=Du (Dt [(54,Kz N),(76,VJ N),(55,EZ N),(58,EO N),(52,F9 N)] []) ⟨[],[]⟩ Tryz.f75 N (Dp ⟨LC N,Yj N,EL N,EH N,Fg N,trivial⟩)
def AaP:Sig:=.of [Dw,Dw] [Dw,Dv] (fun a=>Lh N a.1 a.2)
theorem AfU:Dq 20 (AaP N):=Du (Dt [(77,uY N),(67,JL N),(69,LU N)] []) ⟨[],[]⟩ Tryz.f20 N (Dp ⟨Aeb N,IY N,NJ N,trivial⟩)
def xC:List (Nat×Nrm):=[(3,⟨[5],[],[],[],[]⟩),(26,⟨[5,14,15,16],[],[],[],[]⟩)]
def AaH:Lk:=⟨[],[(26,⟨[(5,.c xs),(14,.i),(15,.i),(16,.c x64)],[]⟩,[(0,⟨[(5,.c xs)],[]⟩)])]⟩
def PR:Sig:=.of [Sq1] [Dw,Dv] (fun a=>Hw N a)
theorem Tq:Dq 63 (PR N):=Du (Dt [(132,JC N),(136,Xf N),(135,uN N),(43,Fp N)] xC) AaH Tryz.f63 N (Dp ⟨JH N,nJ N,AdR N,EM N,trivial⟩)
def aH:Sig:=.of [Dw] [Ea] (fun a=>VN N a)
theorem xE:Dq 381 (aH N):=Du (Dt [(382,aI N),(431,Rf N)] [] [] [] [] [5,8,9,13,17,18,22,23,27,28]) ⟨[],[]⟩ Tryz.f381 N (Dp ⟨fK N,Qs N,trivial⟩)
end
