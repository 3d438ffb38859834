import Derived.Test.YtfgdgdnlglejbaaGreatDoorA10
import Derived.Test.YtfgdgdnlglejbaaGreatDoorA11
import Derived.Test.YtfgdgdnlglejbaaGreatDoorA12
set_option linter.all false
namespace Go.Proofs.YtfgdgdnlglejbaaGreatDoor.Vm
noncomputable section
variable (N:Nat)
open Go.Proofs
def Xr:Sig:=.of [Dx] [Dx] (fun a=>Rt N a)
theorem YZ:Dq 292 (Xr N):=Dw (Dv [] []) ⟨[],[]⟩ Tryz.f292 N (Dp trivial)
def Acl:List (Nat×Nrm):=[(3,⟨[0,4],[],[],[],[]⟩),(11,⟨[5],[],[],[],[]⟩),(18,⟨[0,4],[],[],[],[]⟩),(38,⟨[0,5,34,35],[],[],[],[]⟩)]
def AdW:Lk:=⟨[],[(18,⟨[(0,.i),(4,.c x64)],[]⟩,[(0,⟨[(0,.i),(4,.c x64)],[]⟩)]),(38,⟨[(0,.i),(5,.c (xo 38912)),(34,.i),(35,.c x64)],[(38912,.arr 5 false Ar)]⟩,[(2,⟨[(5,.c (xo 38912))],[(38912,.arr 5 false Ar)]⟩)])]⟩
def Uw:Sig:=.of [Dx] [D5,Dx] (fun a=>Ik N a)
theorem WR:Dq 218 (Uw N):=Dw (Dv [] Acl) AdW Tryz.f218 N (Dp trivial)
def Su:Sig:=.of [.box [(false,.bool)]] [Ee] (fun a=>Hg N a)
theorem OW:Dq 61 (Su N):=Dw (Dv [] []) ⟨[],[]⟩ Tryz.f61 N (Dp trivial)
def Oj:Sig:=.of [Nb] [J4,Dx] (fun a=>Lp N a)
theorem OV:Dq 105 (Oj N):=Dw (Dv [] []) ⟨[],[]⟩ Tryz.f105 N (Dp trivial)
def Af4:List (Nat×Nrm):=[(3,⟨[3],[([3],3,Az,1016384)],[],[(1000000,1016384)],[]⟩),(7,⟨[0,3,4],[],[],[],[]⟩),(11,⟨[],[],[],[],[]⟩),(14,⟨[0,3,4],[([3],3,Az,1000000)],[],[(42240,1000000)],[]⟩),(30,⟨[0,3,4,5],[([3],3,Az,1004096)],[],[(1000000,1004096)],[]⟩)]
def AgW:Lk:=⟨[],[(14,⟨[(0,.i),(3,.c (xo 1000000)),(4,.c x64)],[(1000000,.arr 3 false Az)]⟩,[(0,⟨[(3,.c (xo 1016384))],[(1016384,.arr 3 false Az)]⟩)]),(30,⟨[(0,.i),(3,.c (xo 1004096)),(4,.c x64),(5,.c x64)],[(1004096,.arr 3 false Az)]⟩,[(1,⟨[(0,.i),(3,.c (xo 42240)),(4,.c x64)],[(42240,.arr 3 false Az)]⟩),(2,⟨[],[]⟩)])]⟩
def qI:Sig:=.of [D5] [Alr] (fun a=>Abb N a)
theorem Acf:Dq 276 (qI N):=Dw (Dv [] Af4) AgW Tryz.f276 N (Dp trivial)
def FM:Sig:=.of [Nb] [Dx] (fun a=>EE N a)
theorem Fv:Dq 49 (FM N):=Dw (Dv [] []) ⟨[],[]⟩ Tryz.f49 N (Dp trivial)
def AdV:List (Nat×Nrm):=[(3,⟨[4],[],[],[],[]⟩),(30,⟨[0,4,42,43],[],[],[],[]⟩)]
def Af9:Lk:=⟨[],[(30,⟨[(0,.i),(4,.c x64),(42,.i),(43,.c x64)],[]⟩,[(0,⟨[(4,.c x64)],[]⟩)])]⟩
def QJ:Sig:=.of [D5] [Dx,Dx] (fun a=>NP N a)
theorem Rk:Dq 193 (QJ N):=Dw (Dv [] AdV [] [] [] [8,12,16,20,21,25,29,30,31,32]) Af9 Tryz.f193 N (Dp trivial)
def Acz:List (Nat×Nrm):=[(3,⟨[],[],[],[],[]⟩),(10,⟨[0,3],[],[],[],[]⟩)]
def Aeu:Lk:=⟨[],[(10,⟨[(0,.i),(3,.c x64)],[]⟩,[(0,⟨[],[]⟩)])]⟩
def dG:Sig:=.of [.cell false (.sl 89 Tq5)] [Ee] (fun a=>qU N a)
theorem yZ:Dq 266 (dG N):=Dw (Dv [] Acz) Aeu Tryz.f266 N (Dp trivial)
def qB:Sig:=.of [D5] [D5,D5] (fun a=>AaO N a)
theorem AbO:Dq 412 (qB N):=Dw (Dv [] []) ⟨[],[]⟩ Tryz.f412 N (Dp trivial)
def Adu:Sig:=.of [D5,Dx] [Ee] (fun a=>nJ N a.1 a.2)
theorem AgN:Dq 413 (Adu N):=Dw (Dv [] []) ⟨[],[]⟩ Tryz.f413 N (Dp trivial)
def jO:Sig:=.of [D5] [Ee] (fun a=>Zb N a)
theorem Aaw:Dq 371 (jO N):=Dw (Dv [] []) ⟨[],[]⟩ Tryz.f371 N (Dp trivial)
def EY:Sig:=.of [.box [(false,.bool)],D5,Dx] [D5] (fun a=>Eh N a.1 a.2.1 a.2.2)
theorem EM:Dq 55 (EY N):=Dw (Dv [] []) ⟨[],[]⟩ Tryz.f55 N (Dp trivial)
def Ak3:List (Nat×Nrm):=[(3,⟨[0,1,6],[],[],[],[]⟩),(22,⟨[0,1,6,21,22,23],[],[],[],[]⟩),(77,⟨[1,9],[],[],[(45568,1008192),(47616,1008192),(49664,1008192),(52480,1008192)],[]⟩)]
def Ant:Lk:=⟨[(77,⟨[(1,.i),(9,.c (xo 1008192))],[(1008192,.arr 5 false Ar)]⟩)],[(22,⟨[(0,.i),(1,.i),(6,.c x64),(21,.i),(22,.i),(23,.c x64)],[]⟩,[(0,⟨[(0,.i),(1,.i),(6,.c x64)],[]⟩)])]⟩
def Ip:Sig:=.of [Dx,Sq6] [D5,Dx] (fun a=>Ej N a.1 a.2)
theorem G9:Dq 123 (Ip N):=Dw (Dv [(209,VG N)] Ak3) Ant Tryz.f123 N (Dp ⟨XT N,trivial⟩)
def AeQ:List (Nat×Nrm):=[(3,⟨[3],[],[],[],[]⟩),(14,⟨[3,7,8,9],[],[],[],[]⟩)]
def AgF:Lk:=⟨[],[(14,⟨[(3,.c x64),(7,.c (xo 34560)),(8,.i),(9,.c x64)],[(34560,.arr 5 false Ar)]⟩,[(0,⟨[(3,.c x64)],[]⟩)])]⟩
def Xn:Sig:=.of [D5] [Dx] (fun a=>Nk N a)
theorem YU:Dq 268 (Xn N):=Dw (Dv [] AeQ) AgF Tryz.f268 N (Dp trivial)
def J8:Sig:=.of [Nb,Dx] [J4,Ee] (fun a=>FQ N a.1 a.2)
theorem Jw:Dq 109 (J8 N):=Dw (Dv [] []) ⟨[],[]⟩ Tryz.f109 N (Dp trivial)
def Jh:Sig:=.of [Nb] [Dx] (fun a=>EH N a)
theorem Jc:Dq 196 (Jh N):=Dw (Dv [] []) ⟨[],[]⟩ Tryz.f196 N (Dp trivial)
def VB:Sig:=.of [D5] [Ee,Dx] (fun a=>Zz N a)
theorem XP:Dq 307 (VB N):=Dw (Dv [] []) ⟨[],[]⟩ Tryz.f307 N (Dp trivial)
def Z5:Sig:=.of [D5,Dx] [Ee] (fun a=>QK N a.1 a.2)
theorem bW:Dq 150 (Z5 N):=Dw (Dv [] []) ⟨[],[]⟩ Tryz.f150 N (Dp trivial)
def AdX:Sig:=.of [D5,Dx] [Ee] (fun a=>oH N a.1 a.2)
theorem Ahd:Dq 402 (AdX N):=Dw (Dv [] []) ⟨[],[]⟩ Tryz.f402 N (Dp trivial)
def wU:Sig:=.of [] [Ap3] (fun _=>Adp N)
theorem Adq:Dq 387 (wU N):=Dw (Dv [] []) ⟨[],[]⟩ Tryz.f387 N (Dp trivial)
def yD:List (Nat×Nrm):=[(3,⟨[0,3],[],[],[],[]⟩),(11,⟨[5],[([5],5,Ar,1012288)],[],[(1008192,1012288)],[]⟩),(14,⟨[0,3,4],[],[],[],[]⟩),(34,⟨[0,3,5,18,19],[([5],5,Ar,1008192)],[],[(41216,1008192)],[]⟩)]
def Aa0:Lk:=⟨[],[(14,⟨[(0,.i),(3,.c x64),(4,.c x64)],[]⟩,[(0,⟨[(0,.i),(3,.c x64)],[]⟩)]),(34,⟨[(0,.i),(3,.i),(5,.c (xo 1008192)),(18,.i),(19,.c x64)],[(1008192,.arr 5 false Ar)]⟩,[(2,⟨[(5,.c (xo 1012288))],[(1012288,.arr 5 false Ar)]⟩)])]⟩
def Rn:Sig:=.of [Dx] [D5] (fun a=>KC N a)
theorem Ux:Dq 119 (Rn N):=Dw (Dv [] yD) Aa0 Tryz.f119 N (Dp trivial)
def AcR:Sig:=.of [Dx] [Dx] (fun a=>Xk N a)
theorem vP:Dq 289 (AcR N):=Dw (Dv [] []) ⟨[],[]⟩ Tryz.f289 N (Dp trivial)
def AaF:Sig:=.of [Dx] [Ee] (fun a=>vS N a)
theorem AeP:Dq 290 (AaF N):=Dw (Dv [] []) ⟨[],[]⟩ Tryz.f290 N (Dp trivial)
def AjJ:List (Nat×Nrm):=[(3,⟨[0,1,7],[],[],[(0,1004096),(1000000,1004096)],[]⟩),(11,⟨[0],[],[],[],[]⟩),(14,⟨[0,1,2,7,8],[],[],[(0,1000000),(37632,1000000)],[]⟩),(30,⟨[0,1,7,9],[],[],[],[]⟩)]
def AlO:Lk:=⟨[],[(14,⟨[(0,.c (xo 1000000)),(1,.i),(2,.i),(7,.i),(8,.c x64)],[(1000000,.arr 5 false Ar)]⟩,[(0,⟨[(0,.c (xo 1004096)),(1,.i),(7,.i)],[(1004096,.arr 5 false Ar)]⟩)]),(30,⟨[(0,.c (xo 1004096)),(1,.c x64),(7,.i),(9,.c x64)],[(1004096,.arr 5 false Ar)]⟩,[(2,⟨[(0,.c (xo 1004096))],[(1004096,.arr 5 false Ar)]⟩)])]⟩
def AcU:Sig:=.of [Sq8,Dx,Dx] [Sq8] (fun a=>lY N a.1 a.2.1 a.2.2)
theorem AgG:Dq 127 (AcU N):=Dw (Dv [] AjJ) AlO Tryz.f127 N (Dp trivial)
def Aik:List (Nat×Nrm):=[(3,⟨[3],[],[],[],[]⟩),(14,⟨[3,9,10,11],[],[],[],[]⟩)]
def AjN:Lk:=⟨[],[(14,⟨[(3,.c (xo 34816)),(9,.i),(10,.i),(11,.c x64)],[(34816,.mp Aq Az)]⟩,[(0,⟨[(3,.c (xo 34816))],[(34816,.mp Aq Az)]⟩)])]⟩
def AaH:Sig:=.of [.cell false (.sl 176 Tq4)] [Sq9] (fun a=>aX N a)
theorem Afe:Dq 213 (AaH N):=Dw (Dv [] Aik) AjN Tryz.f213 N (Dp trivial)
def Abj:Sig:=.of [Dx] [Dx] (fun a=>zB N a)
theorem AfN:Dq 300 (Abj N):=Dw (Dv [] []) ⟨[],[]⟩ Tryz.f300 N (Dp trivial)
def AmM:List (Nat×Nrm):=[(3,⟨[0,1,5],[],[],[],[]⟩),(10,⟨[0,1,5],[],[],[],[]⟩),(11,⟨[0,1],[],[],[(0,1012288),(1008192,1012288)],[]⟩),(22,⟨[0,1,6],[],[],[(0,1008192),(40704,1008192)],[]⟩)]
def AoO:Lk:=⟨[],[(10,⟨[(0,.c (xo 0)),(1,.i),(5,.c x64)],[(0,.arr 5 true Ar)]⟩,[(0,⟨[(0,.c (xo 0)),(1,.i),(5,.c x64)],[(0,.arr 5 true Ar)]⟩)]),(22,⟨[(0,.c (xo 1008192)),(1,.i),(6,.c x64)],[(1008192,.arr 5 true Ar)]⟩,[(2,⟨[(0,.c (xo 1012288)),(1,.i)],[(1012288,.arr 5 true Ar)]⟩)])]⟩
def Agv:Sig:=.of [Atf,Dx] [Atf] (fun a=>Af5 N a.1 a.2)
theorem AiP:Dq 208 (Agv N):=Dw (Dv [] AmM) AoO Tryz.f208 N (Dp trivial)
def Rl:Sig:=.of [Ee] [D5] (fun a=>PD N a)
theorem Uu:Dq 216 (Rl N):=Dw (Dv [] []) ⟨[],[]⟩ Tryz.f216 N (Dp trivial)
def vV (N n:Nat):Sig:=.of [.cell false (.int .i64)] [.cell false (.int .i64)] (AeT N n)
theorem AcV:Qw Tryz.prog (vV N):=Tc (Du:=[.cell false (.int .i64)]) (DK:=[.cell false (.int .i64)]) (l:=[(289,fun a=>Xk N a)]) ⟨vP N,trivial⟩
def Xm:Sig:=.of [Dx,Dx] [Dx] (fun a=>OL N a.1 a.2)
theorem YS:Dq 212 (Xm N):=Dw (Dv [(290,AaF N)] []) ⟨[],[]⟩ Tryz.f212 N (Dp ⟨AeP N,trivial⟩)
def Ak2:List (Nat×Nrm):=[(3,⟨[0,2,5,6,7,8,9],[],[],[],[]⟩),(74,⟨[0,2,5,6,7,8,9,50,51,52],[],[],[],[]⟩),(101,⟨[0,2,5,6,7,8],[],[],[],[]⟩)]
def Anr:Lk:=⟨[(101,⟨[(0,.i),(2,.c AA),(5,.c AQ),(6,.i),(7,.c x64),(8,.c x64)],[(33280,.box BH),(34048,.box BH)]⟩)],[(74,⟨[(0,.i),(2,.c AA),(5,.c AQ),(6,.i),(7,.c x64),(8,.i),(9,.i),(50,.c (xo 45568)),(51,.i),(52,.c x64)],[(33280,.box BH),(34048,.box BH),(45568,.arr 5 false Ar)]⟩,[(0,⟨[(0,.i),(2,.c AA),(5,.c AQ),(6,.i),(7,.c x64),(8,.i),(9,.i)],[(33280,.box BH),(34048,.box BH)]⟩)])]⟩
def Yt:Sig:=.of [D5] [J4,D5,Dx] (fun a=>SS N a)
theorem X8:Dq 239 (Yt N):=Dw (Dv [(300,Abj N)] Ak2) Anr Tryz.f239 N (Dp ⟨AfN N,trivial⟩)
def FO:Sig:=.of [Nb,Dx] [J4,Dx] (fun a=>F9 N a.1 a.2)
theorem Fz:Dq 45 (FO N):=Dw (Dv [(105,Oj N)] []) ⟨[],[]⟩ Tryz.f45 N (Dp ⟨OV N,trivial⟩)
def AgU:List (Nat×Nrm):=[(3,⟨[7],[([7],9,Aq,1004096)],[],[(1000000,1004096)],[]⟩),(34,⟨[7,36,37,38],[([7],9,Aq,1000000)],[],[(45056,1000000)],[]⟩)]
def AiM:Lk:=⟨[],[(34,⟨[(7,.c (xo 1000000)),(36,.c (xo 41728)),(37,.i),(38,.c x64)],[(41728,.arr 3 false Az),(1000000,.arr 9 false Aq)]⟩,[(0,⟨[(7,.c (xo 1004096))],[(1004096,.arr 9 false Aq)]⟩)])]⟩
def Qg:Sig:=.of [D5] [D5,Dx] (fun a=>Oy N a)
theorem P8:Dq 200 (Qg N):=Dw (Dv [(276,qI N),(277,kU N),(209,VG N)] AgU) AiM Tryz.f200 N (Dp ⟨Acf N,Aa3 N,XT N,trivial⟩)
def vT:Sig:=.of [Dx,D5] [Sq7] (fun a=>AcS N a.1 a.2)
theorem AcT:Dq 270 (vT N):=Dw (Dv [(268,Xn N)] []) ⟨[],[]⟩ Tryz.f270 N (Dp ⟨YU N,trivial⟩)
def vU:List (Nat×Nrm):=[(29,⟨[8,9],[],[],[],[]⟩)]
def Aau:Lk:=⟨[(29,⟨[(8,.i),(9,.c x64)],[(0,.box [Bg])]⟩)],[]⟩
def XF:Sig:=.of [Nb,Dx] [Ee,Dx] (fun a=>aU N a.1 a.2)
theorem mD:Dq 356 (XF N):=Dw (Dv [(109,J8 N),(307,VB N)] vU) Aau Tryz.f356 N (Dp ⟨Jw N,XP N,trivial⟩)
def VW:Sig:=.of [D5] [D5,Dx,Dx] (fun a=>TB N a)
theorem VA:Dq 113 (VW N):=Dw (Dv [(150,Z5 N)] []) ⟨[],[]⟩ Tryz.f113 N (Dp ⟨bW N,trivial⟩)
def AmK:List (Nat×Nrm):=[(3,⟨[3],[],[],[],[]⟩),(22,⟨[0,3,4],[],[],[],[]⟩)]
def AoN:Lk:=⟨[],[(22,⟨[(0,.i),(3,.c x64),(4,.c x64)],[]⟩,[(0,⟨[(3,.c x64)],[]⟩)])]⟩
def Agu:Sig:=.of [D5] [Dx] (fun a=>AkX N a)
theorem AiO:Dq 283 (Agu N):=Dw (Dv [] AmK [] [] [] [7,11,12,16,20,21]) AoN Tryz.f283 N (Dp trivial)
def AdM:Sig:=.of [Dx,Dx] [Ee] (fun a=>AiQ N a.1 a.2)
theorem AgX:Dq 284 (AdM N):=Dw (Dv [] []) ⟨[],[]⟩ Tryz.f284 N (Dp trivial)
def qR:Sig:=.of [.cell false (.int .u8)] [Ee] (fun a=>Abh N a)
theorem Acy:Dq 363 (qR N):=Dw (Dv [] [] [] [] [] [5,8,9,12,15,16,17,20,23,24]) ⟨[],[]⟩ Tryz.f363 N (Dp trivial)
def AfL:Sig:=.of [.cell false (.int .u8)] [Ee] (fun a=>ZI N a)
theorem Aa6:Dq 365 (AfL N):=Dw (Dv [] []) ⟨[],[]⟩ Tryz.f365 N (Dp trivial)
def Adn:Sig:=.of [Dx] [Dx] (fun a=>mX N a)
theorem AgK:Dq 279 (Adn N):=Dw (Dv [] []) ⟨[],[]⟩ Tryz.f279 N (Dp trivial)
def Xv:Sig:=.of [.cell false (.int .u8)] [Ee] (fun a=>eX N a)
theorem Ze:Dq 448 (Xv N):=Dw (Dv [] [] [] [] [] [5,8,9,12,15,16]) ⟨[],[]⟩ Tryz.f448 N (Dp trivial)
def Zd:Sig:=.of [.cell false (.int .u8)] [Ee] (fun a=>Yi N a)
theorem bF:Dq 449 (Zd N):=Dw (Dv [] []) ⟨[],[]⟩ Tryz.f449 N (Dp trivial)
def Akk:List (Nat×Nrm):=[(3,⟨[4],[([4],3,Az,1004096)],[],[(1000000,1004096)],[]⟩),(26,⟨[4,18,19,20],[([4],3,Az,1000000)],[],[(40704,1000000)],[]⟩)]
def AmL:Lk:=⟨[],[(26,⟨[(4,.c (xo 1000000)),(18,.i),(19,.i),(20,.c x64)],[(1000000,.arr 3 false Az)]⟩,[(0,⟨[(4,.c (xo 1004096))],[(1004096,.arr 3 false Az)]⟩)])]⟩
def o8:Sig:=.of [D5] [Sq0] (fun a=>Ace N a)
theorem qH:Dq 207 (o8 N):=Dw (Dv [(282,PG N),(283,Agu N),(284,AdM N)] Akk) AmL Tryz.f207 N (Dp ⟨WY N,AiO N,AgX N,trivial⟩)
def AfK:Sig:=.of [.cell false (.int .u8)] [Ee] (fun a=>ZH N a)
theorem Aa5:Dq 362 (AfK N):=Dw (Dv [(363,qR N),(364,Ph N)] []) ⟨[],[]⟩ Tryz.f362 N (Dp ⟨Acy N,RG N,trivial⟩)
def AgO:List (Nat×Nrm):=[(3,⟨[],[],[],[],[]⟩),(18,⟨[27,28,29],[],[],[],[]⟩)]
def Aiy:Lk:=⟨[],[(18,⟨[(27,.c (xo 39680)),(28,.i),(29,.c x64)],[(39680,.arr 5 false Ar)]⟩,[(0,⟨[],[]⟩)])]⟩
def xA:Sig:=.of [D5] [Ee] (fun a=>Adv N a)
theorem Adw:Dq 445 (xA N):=Dw (Dv [(448,Xv N),(449,Zd N)] AgO [] [] [] [8,12,13,17,18,25]) Aiy Tryz.f445 N (Dp ⟨Ze N,bF N,trivial⟩)
def AgP:List (Nat×Nrm):=[(3,⟨[],[],[],[],[]⟩),(18,⟨[32,33,34],[],[],[],[]⟩)]
def Aiz:Lk:=⟨[],[(18,⟨[(32,.c (xo 40960)),(33,.i),(34,.c x64)],[(40960,.arr 5 false Ar)]⟩,[(0,⟨[],[]⟩)])]⟩
def xB:Sig:=.of [D5] [Ee] (fun a=>nK N a)
theorem Adx:Dq 409 (xB N):=Dw (Dv [(411,Qo N),(448,Xv N),(449,Zd N),(364,Ph N)] AgP [] [] [] [9,13,14,18,19,26,27,30]) Aiz Tryz.f409 N (Dp ⟨TD N,Ze N,bF N,RG N,trivial⟩)
def AgM:List (Nat×Nrm):=[(3,⟨[],[],[],[],[]⟩),(26,⟨[3,4,5,6],[],[],[],[]⟩)]
def Aix:Lk:=⟨[],[(26,⟨[(3,.i),(4,.i),(5,.c xb),(6,.c x64)],[]⟩,[(0,⟨[],[]⟩)])]⟩
def wZ:Sig:=.of [D5] [Ee] (fun a=>nI N a)
theorem Adt:Dq 370 (wZ N):=Dw (Dv [(412,qB N),(413,Adu N)] AgM [] [] [] [32,34,35,38,42,43]) Aix Tryz.f370 N (Dp ⟨AbO N,AgN N,trivial⟩)
def EN:Sig:=.of [.box [(false,.bool)],Dx,Sq6] [D5] (fun a=>DD N a.1 a.2.1 a.2.2)
theorem EG:Dq 58 (EN N):=Dw (Dv [(123,Ip N),(55,EY N)] []) ⟨[],[]⟩ Tryz.f58 N (Dp ⟨G9 N,EM N,trivial⟩)
def Nr:Sig:=.of [D5] [Ee] (fun a=>IG N a)
theorem Lr:Dq 214 (Nr N):=Dw (Dv [(207,o8 N)] []) ⟨[],[]⟩ Tryz.f214 N (Dp ⟨qH N,trivial⟩)
def Agc (N n:Nat):Sig:=.of [.cell false (.int .u8)] [.cell false .bool] (AkO N n)
theorem AlU:Qw Tryz.prog (Agc N):=Tc (Du:=[.cell false (.int .u8)]) (DK:=[.cell false .bool]) (l:=[(362,fun a=>ZH N a),(365,fun a=>ZI N a)]) ⟨Aa5 N,Aa6 N,trivial⟩
def AjV:List (Nat×Nrm):=[(3,⟨[],[],[],[],[]⟩),(18,⟨[9,10,11],[],[],[],[]⟩)]
def Amo:Lk:=⟨[],[(18,⟨[(9,.i),(10,.i),(11,.c x64)],[]⟩,[(0,⟨[],[]⟩)])]⟩
def Ua:Sig:=.of [D5] [Ee] (fun a=>Nl N a)
theorem RP:Dq 406 (Ua N):=Dw (Dv [(282,PG N),(445,xA N)] AjV) Amo Tryz.f406 N (Dp ⟨WY N,Adw N,trivial⟩)
def FD:Sig:=.of [.box [(false,.bool)],Sq6] [D5] (fun a=>Eb N a.1 a.2)
theorem Fg:Dq 52 (FD N):=Dw (Dv [(58,EN N)] []) ⟨[],[]⟩ Tryz.f52 N (Dp ⟨EG N,trivial⟩)
def Ol:Sig:=.of [.box [(false,.bool)],Dx] [D5] (fun a=>Hl N a.1 a.2)
theorem OX:Dq 53 (Ol N):=Dw (Dv [(119,Rn N),(58,EN N)] []) ⟨[],[]⟩ Tryz.f53 N (Dp ⟨Ux N,EG N,trivial⟩)
def Xl:Sig:=.of [Dx] [Dx] (fun a=>VN N a)
theorem YR:Dq 211 (Xl N):=Dw (Dv [] [] [] [(7,vV N),(12,vV N)]) ⟨[],[]⟩ Tryz.f211 N (Dp trivial trivial ⟨AcV N,AcV N,trivial⟩)
def Qs:Sig:=.of [D5] [J4,Dx] (fun a=>MI N a)
theorem NT:Dq 148 (Qs N):=Dw (Dv [(239,Yt N)] []) ⟨[],[]⟩ Tryz.f148 N (Dp ⟨X8 N,trivial⟩)
def Vy:Sig:=.of [] [Ap4] (fun _=>TZ N)
theorem XL:Dq 434 (Vy N):=Dw (Dv [] []) ⟨[],[]⟩ Tryz.f434 N (Dp trivial)
def AaM:Sig:=.of [.cell false (.int .u32),.cell false (.int .u64)] [.cell false (.int .u32)] (fun a=>JU N a.1 a.2)
theorem Afk:Dq 462 (AaM N):=Dw (Dv [] []) ⟨[],[]⟩ Tryz.f462 N (Dp trivial)
def qA:Sig:=.of [] [Avo] (fun _=>AaL N)
theorem AbN:Dq 463 (qA N):=Dw (Dv [] []) ⟨[],[]⟩ Tryz.f463 N (Dp trivial)
def LX:Sig:=.of [Aey] [Ee] (fun a=>FP N a)
theorem Nq:Dq 179 (LX N):=Dw (Dv [] []) ⟨[],[]⟩ Tryz.f179 N (Dp trivial)
def AfE:List (Nat×Nrm):=[(3,⟨[0,5,6],[],[],[],[]⟩),(11,⟨[0,5,6],[],[],[],[]⟩),(18,⟨[0,1,5,6,7],[],[],[],[]⟩),(19,⟨[0,13,14,15,16,17,18,19,20],[],[],[],[]⟩),(34,⟨[0,5,6,8],[],[],[],[]⟩),(66,⟨[0,5,6,13,14,15,16,17,18,19,20,21],[],[],[],[]⟩)]
def Ahg:Lk:=⟨[],[(18,⟨[(0,.i),(1,.i),(5,.c (xo 39424)),(6,.c (.c (.Em 34304 0 0))),(7,.c x64)],[(34304,.arr 271 false Aw),(39424,.arr 203 false Aw)]⟩,[(0,⟨[(0,.i),(5,.c (xo 39424)),(6,.c (.c (.Em 34304 0 0)))],[(34304,.arr 271 false Aw),(39424,.arr 203 false Aw)]⟩)]),(34,⟨[(0,.i),(5,.c (xo 39424)),(6,.c (.c (.Em 34304 0 0))),(8,.c x64)],[(34304,.arr 271 false Aw),(39424,.arr 203 false Aw)]⟩,[(2,⟨[(0,.i),(5,.c (xo 39424)),(6,.c (.c (.Em 34304 0 0)))],[(34304,.arr 271 false Aw),(39424,.arr 203 false Aw)]⟩)]),(66,⟨[(0,.i),(5,.c (xo 39424)),(6,.c (.c (.Em 34304 0 0))),(13,.c Bc),(14,.c Bc),(15,.c Bc),(16,.c Bc),(17,.c Bc),(18,.c Bc),(19,.c Bc),(20,.c Bc),(21,.c x64)],[(34304,.arr 271 false Aw),(39424,.arr 203 false Aw)]⟩,[(4,⟨[(0,.i),(13,.c Bc),(14,.c Bc),(15,.c Bc),(16,.c Bc),(17,.c Bc),(18,.c Bc),(19,.c Bc),(20,.c Bc)],[]⟩)])]⟩
def qL:Sig:=.of [Atg,D5] [Atg] (fun a=>Rz N a.1 a.2)
theorem Acp:Dq 153 (qL N):=Dw (Dv [] AfE) Ahg Tryz.f153 N (Dp trivial)
def Aeh:Sig:=.of [Dx] [D5] (fun a=>oN N a)
theorem Ahh:Dq 80 (Aeh N):=Dw (Dv [] []) ⟨[],[]⟩ Tryz.f80 N (Dp trivial)
def La:Sig:=.of [Abp] [Ee] (fun a=>Gv N a)
theorem Md:Dq 92 (La N):=Dw (Dv [] []) ⟨[],[]⟩ Tryz.f92 N (Dp trivial)
def VS:Sig:=.of [Dx] [D5] (fun a=>WI N a)
theorem V8:Dq 242 (VS N):=Dw (Dv [] []) ⟨[],[]⟩ Tryz.f242 N (Dp trivial)
def AaY:Sig:=.of [Dx] [D5] (fun a=>xX N a)
theorem Af1:Dq 258 (AaY N):=Dw (Dv [] []) ⟨[],[]⟩ Tryz.f258 N (Dp trivial)
def oC:Sig:=.of [Dx] [D5] (fun a=>kK N a)
theorem fK:Dq 349 (oC N):=Dw (Dv [] []) ⟨[],[]⟩ Tryz.f349 N (Dp trivial)
def Aci:Sig:=.of [Dx] [D5] (fun a=>kJ N a)
theorem Abc:Dq 350 (Aci N):=Dw (Dv [] []) ⟨[],[]⟩ Tryz.f350 N (Dp trivial)
def Akm:List (Nat×Nrm):=[(3,⟨[3],[],[],[],[]⟩),(14,⟨[3,10,11,12],[],[],[],[]⟩)]
def AmR:Lk:=⟨[],[(14,⟨[(3,.c (xo 35072)),(10,.i),(11,.i),(12,.c x64)],[(35072,.arr 5 false Ar)]⟩,[(0,⟨[(3,.c (xo 35072))],[(35072,.arr 5 false Ar)]⟩)])]⟩
def oD:Sig:=.of [Sq6] [D5] (fun a=>Zv N a)
theorem qK:Dq 304 (oD N):=Dw (Dv [] Akm [] [] [20]) AmR Tryz.f304 N (Dp trivial)
def Uo:Sig:=.of [D5,Dx] [Dx] (fun a=>MG N a.1 a.2)
theorem WN:Dq 254 (Uo N):=Dw (Dv [] []) ⟨[],[]⟩ Tryz.f254 N (Dp trivial)
def UX:Sig:=.of [Avq] [D5] (fun a=>XO N a)
theorem fF:Dq 181 (UX N):=Dw (Dv [] []) ⟨[],[]⟩ Tryz.f181 N (Dp trivial)
def Z8 (N n:Nat):Sig:=.of [.cell false (.int .i64)] [.cell false .str] (fun a=>WT N n a)
theorem bZ (N:Nat): ∀ n,Spec Tryz.prog 94 (Z8 N n)
 | 0=>Ag3 (C:=ctx Tryz.prog [] []) (fn:=Tryz.f94) (Dp (gs:=[]) trivial) (by kernel_rfl) (by kernel_rfl)
 | n+1=>Le (C:=ctx Tryz.prog ((94,Z8 N n)::[]) []) (L:=⟨[],[]⟩) (fn:=Tryz.f94) (N:=N) (Dp ⟨bZ N n,trivial⟩)
def Abe:Sig:=Z8 N N
theorem AfB:Spec Tryz.prog 94 (Abe N):=bZ N N
def AgY:List (Nat×Nrm):=[(3,⟨[4,5],[([4],3,Az,1004096)],[],[(1000000,1004096)],[]⟩),(26,⟨[4,5,14,15,16],[([4],3,Az,1000000)],[],[(40448,1000000)],[]⟩)]
def AiV:Lk:=⟨[],[(26,⟨[(4,.c (xo 1000000)),(5,.c x64),(14,.c (xo 36352)),(15,.i),(16,.c x64)],[(36352,.arr 5 false Ar),(1000000,.arr 3 false Az)]⟩,[(0,⟨[(4,.c (xo 1004096)),(5,.c x64)],[(1004096,.arr 3 false Az)]⟩)])]⟩
def Zu:Sig:=.of [D5] [Alr,Dx] (fun a=>Oz N a)
theorem bQ:Dq 255 (Zu N):=Dw (Dv [] AgY) AiV Tryz.f255 N (Dp trivial)
def NK:Sig:=.of [J4] [Dx] (fun a=>G7 N a)
theorem Nz:Dq 165 (NK N):=Dw (Dv [] [] [] [] [] [6,10,11,16,17,22]) ⟨[],[]⟩ Tryz.f165 N (Dp trivial)
def Af0:List (Nat×Nrm):=[(3,⟨[4],[],[],[],[]⟩),(22,⟨[4,12,13,14],[],[],[],[]⟩)]
def AgS:Lk:=⟨[],[(22,⟨[(4,.c x64),(12,.c (xo 35840)),(13,.i),(14,.c x64)],[(35840,.arr 5 false Ar)]⟩,[(0,⟨[(4,.c x64)],[]⟩)])]⟩
def qG:Sig:=.of [D5] [Dx,Ee] (fun a=>OQ N a)
theorem Aca:Dq 175 (qG N):=Dw (Dv [] Af0) AgS Tryz.f175 N (Dp trivial)
def nX:Sig:=.of [Alr] [TF] (fun a=>V5 N a)
theorem qE:Dq 8 (nX N):=Dw (Dv [] []) ⟨[],[]⟩ Tryz.f8 N (Dp trivial)
def sJ:List (Nat×Nrm):=[(3,⟨[2,4,5],[],[],[],[]⟩),(11,⟨[2,4,5],[],[],[],[]⟩),(14,⟨[1,2,4,5,6],[],[],[],[]⟩),(19,⟨[2,4,11],[],[],[],[]⟩),(27,⟨[4,11],[],[],[],[]⟩),(30,⟨[2,4,5,7],[],[],[],[]⟩),(62,⟨[2,4,5,10,11,12],[],[],[],[]⟩),(98,⟨[2,4,11,204],[],[],[],[]⟩)]
def wW:Lk:=⟨[],[(14,⟨[(1,.i),(2,.c (.c (.Em 33280 0 0))),(4,.c (.c (.Em 33792 0 0))),(5,.c (.c (.Em 34048 0 0))),(6,.c x64)],[(33280,.arr 392 false Aw),(33792,.arr 392 false Aw),(34048,.arr 271 false Aw)]⟩,[(0,⟨[(2,.c (.c (.Em 33280 0 0))),(4,.c (.c (.Em 33792 0 0))),(5,.c (.c (.Em 34048 0 0)))],[(33280,.arr 392 false Aw),(33792,.arr 392 false Aw),(34048,.arr 271 false Aw)]⟩)]),(30,⟨[(2,.c (.c (.Em 33280 0 0))),(4,.c (.c (.Em 33792 0 0))),(5,.c (.c (.Em 34048 0 0))),(7,.c x64)],[(33280,.arr 392 false Aw),(33792,.arr 392 false Aw),(34048,.arr 271 false Aw)]⟩,[(2,⟨[(2,.c (.c (.Em 33280 0 0))),(4,.c (.c (.Em 33792 0 0))),(5,.c (.c (.Em 34048 0 0)))],[(33280,.arr 392 false Aw),(33792,.arr 392 false Aw),(34048,.arr 271 false Aw)]⟩)]),(62,⟨[(2,.c (.c (.Em 33280 0 0))),(4,.c (.c (.Em 33792 0 0))),(5,.c (.c (.Em 34048 0 0))),(10,.c (.c (.Em 35328 0 0))),(11,.c (.c (.Em 35584 0 0))),(12,.c x64)],[(33280,.arr 392 false Aw),(33792,.arr 392 false Aw),(34048,.arr 271 false Aw),(35328,.arr 271 false Aw),(35584,.arr 392 false Aw)]⟩,[(4,⟨[(2,.c (.c (.Em 33280 0 0))),(4,.c (.c (.Em 33792 0 0))),(11,.c (.c (.Em 35584 0 0)))],[(33280,.arr 392 false Aw),(33792,.arr 392 false Aw),(35584,.arr 392 false Aw)]⟩)]),(98,⟨[(2,.c (.c (.Em 33280 0 0))),(4,.c (.c (.Em 33792 0 0))),(11,.c (.c (.Em 35584 0 0))),(204,.c x64)],[(33280,.arr 392 false Aw),(33792,.arr 392 false Aw),(35584,.arr 392 false Aw)]⟩,[(6,⟨[(4,.c (.c (.Em 33792 0 0))),(11,.c (.c (.Em 35584 0 0)))],[(33792,.arr 392 false Aw),(35584,.arr 392 false Aw)]⟩)])]⟩
def Qb:Sig:=.of [Ap4,Avp] [Ap4] (fun a=>LJ N a.1 a.2)
theorem Tq:Dq 435 (Qb N):=Dw (Dv [(462,AaM N),(463,qA N)] sJ) wW Tryz.f435 N (Dp ⟨Afk N,AbN N,trivial⟩)
def KW:Sig:=.of [Aey] [Dx] (fun a=>F6 N a)
theorem LZ:Dq 152 (KW N):=Dw (Dv [(179,LX N)] []) ⟨[],[]⟩ Tryz.f152 N (Dp ⟨Nq N,trivial⟩)
def Ajg:List (Nat×Nrm):=[(3,⟨[3],[],[],[],[]⟩),(11,⟨[3,6,9],[],[],[],[]⟩),(14,⟨[3,15,16,17],[],[],[],[]⟩),(19,⟨[6],[],[(none,6,Aw)],[],[]⟩),(27,⟨[12],[],[],[(51456,1032768),(1028672,1032768)],[]⟩),(49,⟨[3,6,7,8],[],[],[],[]⟩),(62,⟨[3,6,7,9,10],[],[],[],[]⟩),(82,⟨[3,6,11],[],[(none,6,Aw)],[],[]⟩),(102,⟨[12,74,75,76],[],[],[(51456,1028672),(56576,1028672)],[]⟩)]
def Akr:Lk:=⟨[(49,⟨[(3,.i),(6,.c (xo 39168)),(7,.i),(8,.c x64)],[(39168,.arr 203 false Aw)]⟩)],[(14,⟨[(3,.c xs),(15,.i),(16,.i),(17,.c x64)],[]⟩,[(0,⟨[(3,.c xs)],[]⟩)]),(62,⟨[(3,.i),(6,.c (xo 39168)),(7,.i),(9,.c (xo 41984)),(10,.c x64)],[(39168,.arr 203 false Aw),(41984,.arr 5 false Ar)]⟩,[(2,⟨[(3,.i),(6,.c (xo 39168)),(9,.c (xo 41984))],[(39168,.arr 203 false Aw),(41984,.arr 5 false Ar)]⟩)]),(82,⟨[(3,.i),(6,.c (xl Aw)),(11,.c x64)],[]⟩,[(4,⟨[(6,.c (xl Aw))],[]⟩)]),(102,⟨[(12,.c (xo 1028672)),(74,.i),(75,.i),(76,.c x64)],[(1028672,.arr 5 false Ar)]⟩,[(6,⟨[(12,.c (xo 1032768))],[(1032768,.arr 5 false Ar)]⟩)])]⟩
def Abf:Sig:=.of [Sq6] [D5] (fun a=>cZ N a)
theorem AfD:Dq 79 (Abf N):=Dw (Dv [(153,qL N)] Ajg) Akr Tryz.f79 N (Dp ⟨Acp N,trivial⟩)
def Ur:Sig:=.of [D5,D5,Dx] [Dx] (fun a=>OH N a.1 a.2.1 a.2.2)
theorem WO:Dq 302 (Ur N):=Dw (Dv [(254,Uo N)] []) ⟨[],[]⟩ Tryz.f302 N (Dp ⟨WN N,trivial⟩)
def Aaz:List (Nat×Nrm):=[(17,⟨[0,2,3],[],[],[],[]⟩)]
def AbU:Lk:=⟨[(17,⟨[(0,.i),(2,.c AA),(3,.c xs)],[(33280,.box BM),(33281,.Ef 144 false Au)]⟩)],[]⟩
def S9:Sig:=.of [Dx] [Sq1] (fun a=>IE N a)
theorem UW:Dq 29 (S9 N):=Dw (Dv [(94,Abe N)] Aaz) AbU Tryz.f29 N (Dp ⟨AfB N,trivial⟩)
def VC:Sig:=.of [D5,Dx] [D5,Dx] (fun a=>Qj N a.1 a.2)
theorem XQ:Dq 76 (VC N):=Dw (Dv [(150,Z5 N)] []) ⟨[],[]⟩ Tryz.f76 N (Dp ⟨bW N,trivial⟩)
def Ahp:List (Nat×Nrm):=[(3,⟨[],[],[],[],[]⟩),(18,⟨[1,5],[],[],[],[]⟩)]
def Ajw:Lk:=⟨[],[(18,⟨[(1,.i),(5,.c xs)],[]⟩,[(0,⟨[],[]⟩)])]⟩
def X9 (N n:Nat):Sig:=.of [J4,.cell false (.int .i64)] [.cell false (.int .i64)] (fun a=>O7 N n a.1 a.2)
theorem ZK (N:Nat): ∀ n,Spec Tryz.prog 291 (X9 N n)
 | 0=>Ag3 (C:=ctx Tryz.prog [] []) (fn:=Tryz.f291) (Dp (gs:=[]) trivial) (by kernel_rfl) (by kernel_rfl)
 | n+1=>Le (C:=ctx Tryz.prog ((291,X9 N n)::[(239,Yt N)]) Ahp) (L:=Ajw) (fn:=Tryz.f291) (N:=N) (Dp ⟨ZK N n,⟨X8 N,trivial⟩⟩)
def zC:Sig:=X9 N N
theorem Aev:Spec Tryz.prog 291 (zC N):=ZK N N
def AgV:List (Nat×Nrm):=[(3,⟨[5],[],[],[(37888,1004096),(1000000,1004096)],[]⟩),(26,⟨[5,22,23,24],[],[],[(37888,1000000),(40448,1000000)],[]⟩)]
def AiN:Lk:=⟨[],[(26,⟨[(5,.c (xo 1000000)),(22,.i),(23,.i),(24,.c x64)],[(1000000,.arr 5 true Ar)]⟩,[(0,⟨[(5,.c (xo 1004096))],[(1004096,.arr 5 true Ar)]⟩)])]⟩
def Qh:Sig:=.of [D5] [D5,Dx] (fun a=>MS N a)
theorem P9:Dq 122 (Qh N):=Dw (Dv [(207,o8 N),(208,Agv N)] AgV) AiN Tryz.f122 N (Dp ⟨qH N,AiP N,trivial⟩)
def XG:Sig:=.of [.box [(false,.bool)],Dx,Ee] [D5] (fun a=>TU N a.1 a.2.1 a.2.2)
theorem mF:Dq 219 (XG N):=Dw (Dv [(216,Rl N),(58,EN N)] []) ⟨[],[]⟩ Tryz.f219 N (Dp ⟨Uu N,EG N,trivial⟩)
def Ak1:List (Nat×Nrm):=[(3,⟨[4],[([4],89,Tq5,1004096)],[],[(1000000,1004096)],[]⟩),(10,⟨[0,4],[([4],89,Tq5,1000000)],[],[(38400,1000000)],[]⟩)]
def Anq:Lk:=⟨[],[(10,⟨[(0,.c xs),(4,.c (xo 1000000))],[(1000000,.arr 89 false Tq5)]⟩,[(0,⟨[(4,.c (xo 1004096))],[(1004096,.arr 89 false Tq5)]⟩)])]⟩
def Io:Sig:=.of [D5] [.cell false (.sl 89 Tq5),Dx] (fun a=>Ht N a)
theorem G8:Dq 192 (Io N):=Dw (Dv [(239,Yt N)] Ak1) Anq Tryz.f192 N (Dp ⟨X8 N,trivial⟩)
def Ahc:List (Nat×Nrm):=[(3,⟨[8],[],[],[],[]⟩),(46,⟨[4,8,35,36],[],[],[],[]⟩)]
def Aja:Lk:=⟨[],[(46,⟨[(4,.i),(8,.c x64),(35,.i),(36,.c x64)],[]⟩,[(0,⟨[(8,.c x64)],[]⟩)])]⟩
def Z4:Sig:=.of [D5] [Dx,Dx] (fun a=>O5 N a)
theorem bV:Dq 357 (Z4 N):=Dw (Dv [(113,VW N),(402,AdX N)] Ahc) Aja Tryz.f357 N (Dp ⟨VA N,Ahd N,trivial⟩)
def nC:List (Nat×Nrm):=[(3,⟨[0,4],[],[(none,4,Ar)],[],[]⟩),(13,⟨[0,1],[],[],[],[]⟩),(22,⟨[0,4],[],[(none,4,Ar)],[],[41728]⟩)]
def sH:Lk:=⟨[(13,⟨[(0,.c AB),(1,.i)],[(0,.box Bv)]⟩)],[(22,⟨[(0,.c AB),(4,.c Bj)],[(0,.box Bv)]⟩,[(0,⟨[(0,.c AB),(4,.c Bj)],[(0,.box Bv)]⟩)])]⟩
def UU:Sig:=.of [Ap3,D5] [] (fun a=>Ny N a.1 a.2)
theorem eQ:Dq 388 (UU N):=Dw (Dv [(434,Vy N),(435,Qb N)] nC) sH Tryz.f388 N (Dp ⟨XL N,Tq N,trivial⟩)
def QV:Sig:=.of [Sq5] [D5,Dx] (fun a=>I9 N a)
theorem Xp:Dq 124 (QV N):=Dw (Dv [(122,Qh N),(123,Ip N)] []) ⟨[],[]⟩ Tryz.f124 N (Dp ⟨P9 N,G9 N,trivial⟩)
def LV:Sig:=.of [] [D5] (fun _=>Hq N)
theorem Np:Dq 54 (LV N):=Dw (Dv [(122,Qh N),(123,Ip N)] []) ⟨[],[]⟩ Tryz.f54 N (Dp ⟨P9 N,G9 N,trivial⟩)
def Hy:Sig:=.of [D5,Dx] [J4,Dx] (fun a=>I8 N a.1 a.2)
theorem JR:Dq 73 (Hy N):=Dw (Dv [(148,Qs N)] []) ⟨[],[]⟩ Tryz.f73 N (Dp ⟨NT N,trivial⟩)
def NH (N:Nat):Alt:=.of [.cell false .str] [Nb,.cell false (.int .i64)] [.cell false .ptr,.cell false (.int .i64)] (fun a=>JQ N a)
theorem Sr:Spec Tryz.prog 104 (NH N).1/\Spec Tryz.prog 104 (NH N).2.1:=NY (C:=ctx Tryz.prog [(192,Io N)] []) (L:=⟨[],[]⟩) (fn:=Tryz.f104) (N:=N) (Dp ⟨G8 N,trivial⟩) (by kernel_rfl) (by kernel_rfl) (fun a=>by kernel_rfl)
def LM:Sig:=.of [J4] [Dx] (fun a=>Ih N a)
theorem NW:Dq 112 (LM N):=Dw (Dv [(192,Io N),(200,Qg N)] []) ⟨[],[]⟩ Tryz.f112 N (Dp ⟨G8 N,P8 N,trivial⟩)
def YX:List (Nat×Nrm):=[(85,⟨[2,4,5,7],[],[],[],[]⟩)]
def ZX:Lk:=⟨[(85,⟨[(2,.c AA),(4,.c AP),(5,.i),(7,.i)],[(33280,.box [A8,A7,A8]),(33792,.box [A8,A7,A8])]⟩)],[]⟩
def QU:Sig:=.of [J4] [Sq5,Dx] (fun a=>Tf N a)
theorem Xo:Dq 267 (QU N):=Dw (Dv [(192,Io N),(200,Qg N)] YX) ZX Tryz.f267 N (Dp ⟨G8 N,P8 N,trivial⟩)
def AcQ:List (Nat×Nrm):=[(3,⟨[1,4],[],[],[],[]⟩),(30,⟨[1,4,5],[],[],[],[]⟩)]
def AeO:Lk:=⟨[],[(30,⟨[(1,.c AU),(4,.c x64),(5,.c x64)],[(33024,.box BO)]⟩,[(0,⟨[(1,.c AU),(4,.c x64)],[(33024,.box BO)]⟩)])]⟩
def jE:Sig:=.of [Sq7] [Dx,Dx] (fun a=>vO N a)
theorem Aat:Dq 269 (jE N):=Dw (Dv [(212,Xm N),(211,Xl N)] AcQ [] [] [] [9,13,14,18,19,23,24,28,29,38,42,46,47,51,52,56,57,61,62,66]) AeO Tryz.f269 N (Dp ⟨YS N,YR N,trivial⟩)
def AbI:List (Nat×Nrm):=[(89,⟨[2,4,5,6],[],[],[],[]⟩)]
def Adf:Lk:=⟨[(89,⟨[(2,.c AA),(4,.c AP),(5,.c AQ),(6,.c Bg)],[(33280,.box [A8,AL,A8]),(33792,.box [A8,AL,A8]),(34048,.box [xs,xb,A8])]⟩)],[]⟩
def aV:Sig:=.of [J4] [Ap2,Dx] (fun a=>KG N a)
theorem wG:Dq 245 (aV N):=Dw (Dv [(192,Io N),(200,Qg N),(307,VB N)] AbI) Adf Tryz.f245 N (Dp ⟨G8 N,P8 N,XP N,trivial⟩)
def EX:Sig:=.of [TF,Dx] [Dx] (fun a=>DL N a.1 a.2)
theorem EL:Dq 35 (EX N):=Dw (Dv [] []) ⟨[],[]⟩ Tryz.f35 N (Dp trivial)
def yK:Sig:=.of [] [Gy] (fun _=>oO N)
theorem Aei:Dq 144 (yK N):=Dw (Dv [] []) ⟨[],[]⟩ Tryz.f144 N (Dp trivial)
def wV:List (Nat×Nrm):=[(3,⟨[3,4,5],[],[],[(41984,1008192),(1004096,1008192)],[1008192]⟩),(11,⟨[3,4],[],[],[],[]⟩),(19,⟨[3],[],[],[],[]⟩),(27,⟨[7],[],[],[],[]⟩),(29,⟨[3,4,5],[([4],5,Ar,1000000)],[],[(41216,1000000)],[]⟩),(34,⟨[3,4,5],[],[],[(41984,1004096),(43776,1004096)],[]⟩),(46,⟨[3,4,5,6],[],[],[(47616,1008192)],[]⟩),(58,⟨[3,4],[],[(none,4,Ar)],[],[]⟩),(78,⟨[7,68,69],[([7],5,Ar,1028672)],[],[(54528,1028672)],[]⟩)]
def Aav:Lk:=⟨[(29,⟨[(3,.c (.c (.Em 33536 0 0))),(4,.c (xo 1000000)),(5,.c x64)],[(0,.box Bv),(33536,.arr 392 false Aw),(1000000,.arr 5 false Ar)]⟩)],[(34,⟨[(3,.c (.c (.Em 33536 0 0))),(4,.c (xo 1004096)),(5,.i)],[(0,.box Bv),(33536,.arr 392 false Aw),(1004096,.arr 5 false Ar)]⟩,[(0,⟨[(3,.c (.c (.Em 33536 0 0))),(4,.c (xo 1008192)),(5,.i)],[(0,.box Bv),(33536,.arr 392 false Aw),(1008192,.arr 5 true Ar)]⟩)]),(46,⟨[(3,.c (.c (.Em 33536 0 0))),(4,.c (xo 1008192)),(5,.i),(6,.c x64)],[(0,.box Bv),(33536,.arr 392 false Aw),(1008192,.arr 5 true Ar)]⟩,[(2,⟨[(3,.c (.c (.Em 33536 0 0))),(4,.c (xo 1008192))],[(0,.box Bv),(33536,.arr 392 false Aw),(1008192,.arr 5 true Ar)]⟩)]),(58,⟨[(3,.c (.c (.Em 33536 0 0))),(4,.c Bj)],[(0,.box Bv),(33536,.arr 392 false Aw)]⟩,[(4,⟨[(3,.c (.c (.Em 33536 0 0)))],[(0,.box Bv),(33536,.arr 392 false Aw)]⟩)]),(78,⟨[(7,.c (xo 1028672)),(68,.i),(69,.c x64)],[(0,.box Bv),(1028672,.arr 5 false Ar)]⟩,[(6,⟨[(7,.c (xo 1028672))],[(0,.box Bv),(1028672,.arr 5 false Ar)]⟩)])]⟩
def XK:Sig:=.of [Ap3] [D5] (fun a=>Pz N a)
theorem mZ:Dq 389 (XK N):=Dw (Dv [(434,Vy N),(435,Qb N)] wV) Aav Tryz.f389 N (Dp ⟨XL N,Tq N,trivial⟩)
def VR:Sig:=.of [Dx] [D5] (fun a=>Jk N a)
theorem V6:Dq 22 (VR N):=Dw (Dv [(80,Aeh N),(79,Abf N)] []) ⟨[],[]⟩ Tryz.f22 N (Dp ⟨Ahh N,AfD N,trivial⟩)
def UG:Sig:=.of [Abp] [Dx] (fun a=>MW N a)
theorem aC:Dq 154 (UG N):=Dw (Dv [(92,La N),(152,KW N)] []) ⟨[],[]⟩ Tryz.f154 N (Dp ⟨Md N,LZ N,trivial⟩)
def Xx:Sig:=.of [Dx] [D5] (fun a=>OO N a)
theorem Zm:Dq 237 (Xx N):=Dw (Dv [] []) ⟨[],[]⟩ Tryz.f237 N (Dp trivial)
def AaD:Sig:=.of [Dx] [Ee] (fun a=>SV N a)
theorem AeD:Dq 164 (AaD N):=Dw (Dv [] []) ⟨[],[]⟩ Tryz.f164 N (Dp trivial)
def jB:Sig:=.of [Dx] [Ee] (fun a=>Ic N a)
theorem Aar:Dq 247 (jB N):=Dw (Dv [] []) ⟨[],[]⟩ Tryz.f247 N (Dp trivial)
def Q5:Sig:=.of [] [.cell false (.sl 283 Tq6)] (fun _=>Ib N)
theorem QZ:Dq 252 (Q5 N):=Dw (Dv [] []) ⟨[],[]⟩ Tryz.f252 N (Dp trivial)
def Ab2:Sig:=.of [Gy] [Ee] (fun a=>Vh N a)
theorem rP:Dq 310 (Ab2 N):=Dw (Dv [] []) ⟨[],[]⟩ Tryz.f310 N (Dp trivial)
def Ab3:Sig:=.of [Gy] [Ee] (fun a=>Vj N a)
theorem rQ:Dq 313 (Ab3 N):=Dw (Dv [] []) ⟨[],[]⟩ Tryz.f313 N (Dp trivial)
def Ab4:Sig:=.of [Gy] [Ee] (fun a=>Vk N a)
theorem rU:Dq 316 (Ab4 N):=Dw (Dv [] []) ⟨[],[]⟩ Tryz.f316 N (Dp trivial)
def Ab5:Sig:=.of [Gy] [Ee] (fun a=>Vl N a)
theorem rV:Dq 319 (Ab5 N):=Dw (Dv [] []) ⟨[],[]⟩ Tryz.f319 N (Dp trivial)
def AaV:Sig:=.of [TF] [Dx] (fun a=>WC N a)
theorem Afw:Dq 36 (AaV N):=Dw (Dv [(35,EX N)] []) ⟨[],[]⟩ Tryz.f36 N (Dp ⟨EL N,trivial⟩)
def Zn:Sig:=.of [TF] [Sq5] (fun a=>QI N a)
theorem sQ:Dq 143 (Zn N):=Dw (Dv [(35,EX N)] []) ⟨[],[]⟩ Tryz.f143 N (Dp ⟨EL N,trivial⟩)
def AiE:List (Nat×Nrm):=[(3,⟨[5],[([5],9,Aq,1016384)],[],[(1000000,1016384)],[]⟩),(11,⟨[0,1,5,6,7,8],[([5],9,Aq,1012288)],[],[(1008192,1012288)],[]⟩),(14,⟨[0,1,5,6],[([5],9,Aq,1000000)],[],[(44288,1000000),(1012288,1000000)],[]⟩),(33,⟨[0,1,5,6,7],[([5],9,Aq,1004096)],[],[(1000000,1004096)],[]⟩),(42,⟨[0,1,5,6,7,8,27,28,29],[([5,27],9,Aq,1008192)],[],[(1004096,1008192)],[]⟩)]
def Akg:Lk:=⟨[(33,⟨[(0,.c AB),(1,.i),(5,.c (xo 1004096)),(6,.i),(7,.c xs)],[(0,.box BD),(1004096,.arr 9 false Aq)]⟩)],[(14,⟨[(0,.c AB),(1,.i),(5,.c (xo 1000000)),(6,.c x64)],[(0,.box BD),(1000000,.arr 9 false Aq)]⟩,[(0,⟨[(5,.c (xo 1016384))],[(0,.box BD),(1016384,.arr 9 false Aq)]⟩)]),(42,⟨[(0,.c AB),(1,.i),(5,.c (xo 1008192)),(6,.i),(7,.i),(8,.c xb),(27,.c (xo 1008192)),(28,.i),(29,.c x64)],[(0,.box BD),(1008192,.arr 9 false Aq)]⟩,[(2,⟨[(0,.c AB),(1,.i),(5,.c (xo 1012288)),(6,.i),(7,.i),(8,.c xb)],[(0,.box BD),(1012288,.arr 9 false Aq)]⟩)])]⟩
def AaW:Sig:=.of [TF,Ee] [Sq6] (fun a=>WE N a.1 a.2)
theorem Afx:Dq 145 (AaW N):=Dw (Dv [(35,EX N),(237,Xx N)] AiE) Akg Tryz.f145 N (Dp ⟨EL N,Zm N,trivial⟩)
def AbW:List (Nat×Nrm):=[(3,⟨[3],[([3],267,(.str Aq),1012288)],[],[(1000000,1012288)],[]⟩),(11,⟨[0,3,4,5,6],[([3],267,(.str Aq),1008192)],[],[(1004096,1008192)],[]⟩),(14,⟨[0,3,4],[([3],267,(.str Aq),1000000)],[],[(43264,1000000),(1008192,1000000)],[]⟩),(34,⟨[0,3,4,5,6,23,24,25],[([3,23],267,(.str Aq),1004096)],[],[(1000000,1004096)],[]⟩)]
def AdG:Lk:=⟨[],[(14,⟨[(0,.c AB),(3,.c (xo 1000000)),(4,.c x64)],[(0,.box BD),(1000000,.arr 267 false (.str Aq))]⟩,[(0,⟨[(3,.c (xo 1012288))],[(0,.box BD),(1012288,.arr 267 false (.str Aq))]⟩)]),(34,⟨[(0,.c AB),(3,.c (xo 1004096)),(4,.i),(5,.c AQ),(6,.c xb),(23,.c (xo 1004096)),(24,.i),(25,.c x64)],[(0,.box BD),(34048,.box [xs,xs]),(1004096,.arr 267 false (.str Aq))]⟩,[(2,⟨[(0,.c AB),(3,.c (xo 1008192)),(4,.i),(5,.c AQ),(6,.c xb)],[(0,.box BD),(34048,.box [xs,xs]),(1008192,.arr 267 false (.str Aq))]⟩)])]⟩
def bJ:Sig:=.of [TF] [Als] (fun a=>RU N a)
theorem xM:Dq 146 (bJ N):=Dw (Dv [(35,EX N),(237,Xx N)] AbW) AdG Tryz.f146 N (Dp ⟨EL N,Zm N,trivial⟩)
def AcK:List (Nat×Nrm):=[(3,⟨[2],[],[],[],[]⟩),(10,⟨[0,2,6,7,8],[],[],[],[]⟩)]
def AeF:Lk:=⟨[],[(10,⟨[(0,.i),(2,.c AA),(6,.i),(7,.i),(8,.c x64)],[(33280,.box BI)]⟩,[(0,⟨[(2,.c AA)],[(33280,.box BI)]⟩)])]⟩
def Vg:Sig:=.of [D5] [Avr,Ee] (fun a=>IZ N a)
theorem XE:Dq 308 (Vg N):=Dw (Dv [(252,Q5 N)] AcK) AeF Tryz.f308 N (Dp ⟨QZ N,trivial⟩)
def AiD:List (Nat×Nrm):=[(3,⟨[2,3],[],[],[(33637,1012288),(1000000,1012288)],[]⟩),(11,⟨[0,2,3,4,5],[([5],143,Tq0,1008192)],[],[(33637,1008208),(1004096,1008192),(1004112,1008208)],[]⟩),(14,⟨[0,2,3,4],[],[],[(33637,1000000),(44288,1000000)],[]⟩),(30,⟨[0,2,3,4,5,6],[([5],143,Tq0,1004096)],[],[(33637,1004112),(43008,1004096),(1000000,1004112)],[]⟩)]
def Akf:Lk:=⟨[],[(14,⟨[(0,.c AB),(2,.c AA),(3,.c AO),(4,.c x64)],[(0,.box BD),(33280,.box BM),(33281,.Ef 144 false Au),(33536,.box [(xo 1000000)]),(1000000,.arr 144 false Au)]⟩,[(0,⟨[(2,.c AA),(3,.c AO)],[(0,.box BD),(33280,.box BM),(33281,.Ef 144 false Au),(33536,.box [(xo 1012288)]),(1012288,.arr 144 false Au)]⟩)]),(30,⟨[(0,.c AB),(2,.c AA),(3,.c AO),(4,.i),(5,.c (xo 1004096)),(6,.c x64)],[(0,.box BD),(33280,.box BM),(33281,.Ef 144 false Au),(33536,.box [(xo 1004112)]),(1004096,.arr 143 false Tq0),(1004112,.arr 144 false Au)]⟩,[(2,⟨[(0,.c AB),(2,.c AA),(3,.c AO),(4,.i),(5,.c (xo 1008192))],[(0,.box BD),(33280,.box BM),(33281,.Ef 144 false Au),(33536,.box [(xo 1008208)]),(1008192,.arr 143 false Tq0),(1008208,.arr 144 false Au)]⟩)])]⟩
def VQ:Sig:=.of [TF] [Sq1] (fun a=>Tv N a)
theorem V4:Dq 70 (VQ N):=Dw (Dv [(35,EX N),(143,Zn N)] AiD) Akf Tryz.f70 N (Dp ⟨EL N,sQ N,trivial⟩)
def AjU:List (Nat×Nrm):=[(3,⟨[3],[],[],[],[]⟩),(14,⟨[3,7,8,9],[],[],[],[]⟩)]
def Amn:Lk:=⟨[],[(14,⟨[(3,.c AZ),(7,.i),(8,.i),(9,.c x64)],[(34304,.box Bv)]⟩,[(0,⟨[(3,.c AZ)],[(34304,.box Bv)]⟩)])]⟩
def Adr:Sig:=.of [Sq6] [D5] (fun a=>nD N a)
theorem AgL:Dq 301 (Adr N):=Dw (Dv [(387,wU N),(388,UU N),(389,XK N)] AjU) Amn Tryz.f301 N (Dp ⟨Adq N,eQ N,mZ N,trivial⟩)
def V3:Sig:=.of [TF] [Sq2] (fun a=>NJ N a)
theorem XN:Dq 37 (V3 N):=Dw (Dv [(35,EX N),(70,VQ N)] []) ⟨[],[]⟩ Tryz.f37 N (Dp ⟨EL N,V4 N,trivial⟩)
def AeM:List (Nat×Nrm):=[(33,⟨[1,6],[],[],[],[]⟩),(69,⟨[1,6,7],[],[],[],[]⟩)]
def AgD:Lk:=⟨[(33,⟨[(1,.i),(6,.c x64)],[]⟩),(69,⟨[(1,.i),(6,.i),(7,.c x64)],[]⟩)],[]⟩
def pX:Sig:=.of [Dx,D5] [Dx,Dx] (fun a=>VM N a.1 a.2)
theorem AbD:Dq 195 (pX N):=Dw (Dv [(268,Xn N),(270,vT N),(269,jE N)] AeM) AgD Tryz.f195 N (Dp ⟨YU N,AcT N,Aat N,trivial⟩)
def H5 (N:Nat):Alt:=.of [Nb] [Nb,.cell false (.int .i64)] [.cell false .ptr,.cell false (.int .i64)] (fun a=>FN N a)
theorem Kv:Spec Tryz.prog 197 (H5 N).1/\Spec Tryz.prog 197 (H5 N).2.1:=NY (C:=ctx Tryz.prog [(45,FO N)] [] [(104,NH N)]) (L:=⟨[],[]⟩) (fn:=Tryz.f197) (N:=N) (Dp ⟨Fz N,trivial⟩ ⟨Sr N,trivial⟩) (by kernel_rfl) (by kernel_rfl) (fun a=>by kernel_rfl)
def LH:Sig:=.of [Sq6] [D5] (fun a=>Gz N a)
theorem Kw:Dq 240 (LH N):=Dw (Dv [(301,Adr N)] []) ⟨[],[]⟩ Tryz.f240 N (Dp ⟨AgL N,trivial⟩)
def KD:Sig:=.of [.box [(false,.bool)],.box [(false,.str)],.box [(false,.str)]] [D5] (fun a=>IM N a.1 a.2.1 a.2.2)
theorem Abx:Dq 75 (KD N):=Dw (Dv [(54,LV N),(76,VC N),(55,EY N),(58,EN N),(52,FD N)] []) ⟨[],[]⟩ Tryz.f75 N (Dp ⟨Np N,XQ N,EM N,EG N,Fg N,trivial⟩)
end
