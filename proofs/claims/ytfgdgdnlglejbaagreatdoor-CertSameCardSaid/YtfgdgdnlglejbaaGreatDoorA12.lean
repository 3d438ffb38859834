import Derived.Test.YtfgdgdnlglejbaaGreatDoorA10
import Derived.Test.YtfgdgdnlglejbaaGreatDoorA11
set_option linter.all false
namespace Go.Proofs.YtfgdgdnlglejbaaGreatDoor.Vm
noncomputable section
variable (N:Nat)
open Go.Proofs
def kL:Sig:=.of [J4] [J4] (fun a=>fM N a)
def qV (N:Nat):Jw 292 (kL N):=J3 (Jz [] []) ⟨[],[]⟩ Tryz.f292 N (Jv trivial)
def Aj2:List (Nat×Nrm):=[(3,⟨[0,4],[],[],[],[]⟩),(11,⟨[5],[],[],[],[]⟩),(18,⟨[0,4],[],[],[],[]⟩),(38,⟨[0,5,34,35],[],[],[],[]⟩)]
def Al2:Lk:=⟨[],[(18,⟨[(0,.i),(4,.c x64)],[]⟩,[(0,⟨[(0,.i),(4,.c x64)],[]⟩)]),(38,⟨[(0,.i),(5,.c (xo 38912)),(34,.i),(35,.c x64)],[(38912,.arr 5 false Ar)]⟩,[(2,⟨[(5,.c (xo 38912))],[(38912,.arr 5 false Ar)]⟩)])]⟩
def aB:Sig:=.of [J4] [J7,J4] (fun a=>PD N a)
def jD (N:Nat):Jw 218 (aB N):=J3 (Jz [] Aj2) Al2 Tryz.f218 N (Jv trivial)
def YF:Sig:=.of [.box [(false,.bool)]] [JS] (fun a=>OE N a)
def VE (N:Nat):Jw 61 (YF N):=J3 (Jz [] []) ⟨[],[]⟩ Tryz.f61 N (Jv trivial)
def UI:Sig:=.of [TD] [NL,J4] (fun a=>Ry N a)
def VD (N:Nat):Jw 105 (UI N):=J3 (Jz [] []) ⟨[],[]⟩ Tryz.f105 N (Jv trivial)
def AmV:List (Nat×Nrm):=[(3,⟨[3],[([3],3,Au,1016384)],[],[(1000000,1016384)],[]⟩),(7,⟨[0,3,4],[],[],[],[]⟩),(11,⟨[],[],[],[],[]⟩),(14,⟨[0,3,4],[([3],3,Au,1000000)],[],[(42240,1000000)],[]⟩),(30,⟨[0,3,4,5],[([3],3,Au,1004096)],[],[(1000000,1004096)],[]⟩)]
def AoF:Lk:=⟨[],[(14,⟨[(0,.i),(3,.c (xo 1000000)),(4,.c x64)],[(1000000,.arr 3 false Au)]⟩,[(0,⟨[(3,.c (xo 1016384))],[(1016384,.arr 3 false Au)]⟩)]),(30,⟨[(0,.i),(3,.c (xo 1004096)),(4,.c x64),(5,.c x64)],[(1004096,.arr 3 false Au)]⟩,[(1,⟨[(0,.i),(3,.c (xo 42240)),(4,.c x64)],[(42240,.arr 3 false Au)]⟩),(2,⟨[],[]⟩)])]⟩
def Ady:Sig:=.of [J7] [ApE] (fun a=>Ait N a)
def Ajx (N:Nat):Jw 276 (Ady N):=J3 (Jz [] AmV) AoF Tryz.f276 N (Jv trivial)
def MI:Sig:=.of [TD] [J4] (fun a=>KQ N a)
def LU (N:Nat):Jw 49 (MI N):=J3 (Jz [] []) ⟨[],[]⟩ Tryz.f49 N (Jv trivial)
def Al1:List (Nat×Nrm):=[(3,⟨[4],[],[],[],[]⟩),(30,⟨[0,4,42,43],[],[],[],[]⟩)]
def AmZ:Lk:=⟨[],[(30,⟨[(0,.i),(4,.c x64),(42,.i),(43,.c x64)],[]⟩,[(0,⟨[(4,.c x64)],[]⟩)])]⟩
def X5:Sig:=.of [J7] [J4,J4] (fun a=>Um N a)
def XW (N:Nat):Jw 193 (X5 N):=J3 (Jz [] Al1 [] [] [] [8,12,16,20,21,25,29,30,31,32]) AmZ Tryz.f193 N (Jv trivial)
def AjM:List (Nat×Nrm):=[(3,⟨[],[],[],[],[]⟩),(10,⟨[0,3],[],[],[],[]⟩)]
def AlT:Lk:=⟨[],[(10,⟨[(0,.i),(3,.c x64)],[]⟩,[(0,⟨[],[]⟩)])]⟩
def y9:Sig:=.of [.cell false (.sl 89 Tq5)] [JS] (fun a=>AdF N a)
def AgI (N:Nat):Jw 266 (y9 N):=J3 (Jz [] AjM) AlT Tryz.f266 N (Jv trivial)
open Go.Proofs
def Ads:Sig:=.of [J7] [J7,J7] (fun a=>Aif N a)
def Aji (N:Nat):Jw 412 (Ads N):=J3 (Jz [] []) ⟨[],[]⟩ Tryz.f412 N (Jv trivial)
def AkL:Sig:=.of [J7,J4] [JS] (fun a=>Acn N a.1 a.2)
def Ao6 (N:Nat):Jw 413 (AkL N):=J3 (Jz [] []) ⟨[],[]⟩ Tryz.f413 N (Jv trivial)
def AaO:Sig:=.of [J7] [JS] (fun a=>qX N a)
def Ah6 (N:Nat):Jw 371 (AaO N):=J3 (Jz [] []) ⟨[],[]⟩ Tryz.f371 N (Jv trivial)
def Lu:Sig:=.of [.box [(false,.bool)],J7,J4] [J7] (fun a=>Kt N a.1 a.2.1 a.2.2)
def La (N:Nat):Jw 55 (Lu N):=J3 (Jz [] []) ⟨[],[]⟩ Tryz.f55 N (Jv trivial)
def AsD:List (Nat×Nrm):=[(3,⟨[0,1,6],[],[],[],[]⟩),(22,⟨[0,1,6,21,22,23],[],[],[],[]⟩),(77,⟨[1,9],[],[],[(45568,1008192),(47616,1008192),(49664,1008192),(52480,1008192)],[]⟩)]
def Av4:Lk:=⟨[(77,⟨[(1,.i),(9,.c (xo 1008192))],[(1008192,.arr 5 false Ar)]⟩)],[(22,⟨[(0,.i),(1,.i),(6,.c x64),(21,.i),(22,.i),(23,.c x64)],[]⟩,[(0,⟨[(0,.i),(1,.i),(6,.c x64)],[]⟩)])]⟩
def Oy:Sig:=.of [J4,Sq6] [J7,J4] (fun a=>KP N a.1 a.2)
def Nr (N:Nat):Jw 123 (Oy N):=J3 (Jz [(209,fB N)] AsD) Av4 Tryz.f123 N (Jv ⟨nK N,trivial⟩)
open Go.Proofs
def Amu:List (Nat×Nrm):=[(3,⟨[3],[],[],[],[]⟩),(14,⟨[3,7,8,9],[],[],[],[]⟩)]
def Aoy:Lk:=⟨[],[(14,⟨[(3,.c x64),(7,.c (xo 34560)),(8,.i),(9,.c x64)],[(34560,.arr 5 false Ar)]⟩,[(0,⟨[(3,.c x64)],[]⟩)])]⟩
def kG:Sig:=.of [J7] [J4] (fun a=>TK N a)
def qO (N:Nat):Jw 268 (kG N):=J3 (Jz [] Amu) Aoy Tryz.f268 N (Jv trivial)
def PZ:Sig:=.of [TD,J4] [NL,JS] (fun a=>MM N a.1 a.2)
def PQ (N:Nat):Jw 109 (PZ N):=J3 (Jz [] []) ⟨[],[]⟩ Tryz.f109 N (Jv trivial)
def P6:Sig:=.of [TD] [J4] (fun a=>KW N a)
def Pq (N:Nat):Jw 196 (P6 N):=J3 (Jz [] []) ⟨[],[]⟩ Tryz.f196 N (Jv trivial)
def eG:Sig:=.of [J7] [JS,J4] (fun a=>sJ N a)
def mP (N:Nat):Jw 307 (eG N):=J3 (Jz [] []) ⟨[],[]⟩ Tryz.f307 N (Jv trivial)
def sN:Sig:=.of [J7,J4] [JS] (fun a=>X6 N a.1 a.2)
def xH (N:Nat):Jw 150 (sN N):=J3 (Jz [] []) ⟨[],[]⟩ Tryz.f150 N (Jv trivial)
def Al3:Sig:=.of [J7,J4] [JS] (fun a=>AcA N a.1 a.2)
def AoM (N:Nat):Jw 402 (Al3 N):=J3 (Jz [] []) ⟨[],[]⟩ Tryz.f402 N (Jv trivial)
def Af1:Sig:=.of [] [AxB] (fun _=>AkG N)
def AkH (N:Nat):Jw 387 (Af1 N):=J3 (Jz [] []) ⟨[],[]⟩ Tryz.f387 N (Jv trivial)
open Go.Proofs
def AfX:List (Nat×Nrm):=[(3,⟨[0,3],[],[],[],[]⟩),(11,⟨[5],[([5],5,Ar,1012288)],[],[(1008192,1012288)],[]⟩),(14,⟨[0,3,4],[],[],[],[]⟩),(34,⟨[0,3,5,18,19],[([5],5,Ar,1008192)],[],[(41216,1008192)],[]⟩)]
def AhA:Lk:=⟨[],[(14,⟨[(0,.i),(3,.c x64),(4,.c x64)],[]⟩,[(0,⟨[(0,.i),(3,.c x64)],[]⟩)]),(34,⟨[(0,.i),(3,.i),(5,.c (xo 1008192)),(18,.i),(19,.c x64)],[(1008192,.arr 5 false Ar)]⟩,[(2,⟨[(5,.c (xo 1012288))],[(1012288,.arr 5 false Ar)]⟩)])]⟩
def XY:Sig:=.of [J4] [J7] (fun a=>QG N a)
def aC (N:Nat):Jw 119 (XY N):=J3 (Jz [] AfX) AhA Tryz.f119 N (Jv trivial)
def Akr:Sig:=.of [J4] [J4] (fun a=>jZ N a)
def Afe (N:Nat):Jw 289 (Akr N):=J3 (Jz [] []) ⟨[],[]⟩ Tryz.f289 N (Jv trivial)
def AhW:Sig:=.of [J4] [JS] (fun a=>Aff N a)
def Amt (N:Nat):Jw 290 (AhW N):=J3 (Jz [] []) ⟨[],[]⟩ Tryz.f290 N (Jv trivial)
def ArP:List (Nat×Nrm):=[(3,⟨[0,1,7],[],[],[(0,1004096),(1000000,1004096)],[]⟩),(11,⟨[0],[],[],[],[]⟩),(14,⟨[0,1,2,7,8],[],[],[(0,1000000),(37632,1000000)],[]⟩),(30,⟨[0,1,7,9],[],[],[],[]⟩)]
def Aue:Lk:=⟨[],[(14,⟨[(0,.c (xo 1000000)),(1,.i),(2,.i),(7,.i),(8,.c x64)],[(1000000,.arr 5 false Ar)]⟩,[(0,⟨[(0,.c (xo 1004096)),(1,.i),(7,.i)],[(1004096,.arr 5 false Ar)]⟩)]),(30,⟨[(0,.c (xo 1004096)),(1,.c x64),(7,.i),(9,.c x64)],[(1004096,.arr 5 false Ar)]⟩,[(2,⟨[(0,.c (xo 1004096))],[(1004096,.arr 5 false Ar)]⟩)])]⟩
def Aku:Sig:=.of [Sq8,J4,J4] [Sq8] (fun a=>AbT N a.1 a.2.1 a.2.2)
def Aoz (N:Nat):Jw 127 (Aku N):=J3 (Jz [] ArP) Aue Tryz.f127 N (Jv trivial)
def Aqk:List (Nat×Nrm):=[(3,⟨[3],[],[],[],[]⟩),(14,⟨[3,9,10,11],[],[],[],[]⟩)]
def ArT:Lk:=⟨[],[(14,⟨[(3,.c (xo 34816)),(9,.i),(10,.i),(11,.c x64)],[(34816,.mp Aq Au)]⟩,[(0,⟨[(3,.c (xo 34816))],[(34816,.mp Aq Au)]⟩)])]⟩
def AhY:Sig:=.of [.cell false (.sl 176 Tq4)] [Sq9] (fun a=>wK N a)
def Am6 (N:Nat):Jw 213 (AhY N):=J3 (Jz [] Aqk) ArT Tryz.f213 N (Jv trivial)
def Ai6:Sig:=.of [J4] [J4] (fun a=>AgK N a)
def An3 (N:Nat):Jw 300 (Ai6 N):=J3 (Jz [] []) ⟨[],[]⟩ Tryz.f300 N (Jv trivial)
def AuY:List (Nat×Nrm):=[(3,⟨[0,1,5],[],[],[],[]⟩),(10,⟨[0,1,5],[],[],[],[]⟩),(11,⟨[0,1],[],[],[(0,1012288),(1008192,1012288)],[]⟩),(22,⟨[0,1,6],[],[],[(0,1008192),(40704,1008192)],[]⟩)]
def AwX:Lk:=⟨[],[(10,⟨[(0,.c (xo 0)),(1,.i),(5,.c x64)],[(0,.arr 5 true Ar)]⟩,[(0,⟨[(0,.c (xo 0)),(1,.i),(5,.c x64)],[(0,.arr 5 true Ar)]⟩)]),(22,⟨[(0,.c (xo 1008192)),(1,.i),(6,.c x64)],[(1008192,.arr 5 true Ar)]⟩,[(2,⟨[(0,.c (xo 1012288)),(1,.i)],[(1012288,.arr 5 true Ar)]⟩)])]⟩
def Aoe:Sig:=.of [A1j,J4] [A1j] (fun a=>AmW N a.1 a.2)
def AqN (N:Nat):Jw 208 (Aoe N):=J3 (Jz [] AuY) AwX Tryz.f208 N (Jv trivial)
def XX:Sig:=.of [JS] [J7] (fun a=>ZZ N a)
def aA (N:Nat):Jw 216 (XX N):=J3 (Jz [] []) ⟨[],[]⟩ Tryz.f216 N (Jv trivial)
open Go.Proofs
def Afi (N n:Nat):Sig:=.of [.cell false (.int .i64)] [.cell false (.int .i64)] (Amx N n)
def Akv (N:Nat):Xi Tryz.prog (Afi N):=YY (J6:=[.cell false (.int .i64)]) (JJ:=[.cell false (.int .i64)]) (l:=[(289,fun a=>jZ N a)]) ⟨Afe N,trivial⟩
def kE:Sig:=.of [J4,J4] [J4] (fun a=>Vz N a.1 a.2)
def qN (N:Nat):Jw 212 (kE N):=J3 (Jz [(290,AhW N)] []) ⟨[],[]⟩ Tryz.f212 N (Jv ⟨Amt N,trivial⟩)
def AsC:List (Nat×Nrm):=[(3,⟨[0,2,5,6,7,8,9],[],[],[],[]⟩),(74,⟨[0,2,5,6,7,8,9,50,51,52],[],[],[],[]⟩),(101,⟨[0,2,5,6,7,8],[],[],[],[]⟩)]
def Av3:Lk:=⟨[(101,⟨[(0,.i),(2,.c AL),(5,.c AX),(6,.i),(7,.c x64),(8,.c x64)],[(33280,.box BH),(34048,.box BH)]⟩)],[(74,⟨[(0,.i),(2,.c AL),(5,.c AX),(6,.i),(7,.c x64),(8,.i),(9,.i),(50,.c (xo 45568)),(51,.i),(52,.c x64)],[(33280,.box BH),(34048,.box BH),(45568,.arr 5 false Ar)]⟩,[(0,⟨[(0,.i),(2,.c AL),(5,.c AX),(6,.i),(7,.c x64),(8,.i),(9,.i)],[(33280,.box BH),(34048,.box BH)]⟩)])]⟩
def oN:Sig:=.of [J7] [NL,J7,J4] (fun a=>YU N a)
def lN (N:Nat):Jw 239 (oN N):=J3 (Jz [(300,Ai6 N)] AsC) Av3 Tryz.f239 N (Jv ⟨An3 N,trivial⟩)
def MK:Sig:=.of [TD,J4] [NL,J4] (fun a=>Mc N a.1 a.2)
def LV (N:Nat):Jw 45 (MK N):=J3 (Jz [(105,UI N)] []) ⟨[],[]⟩ Tryz.f45 N (Jv ⟨VD N,trivial⟩)
def AoD:List (Nat×Nrm):=[(3,⟨[7],[([7],9,Aq,1004096)],[],[(1000000,1004096)],[]⟩),(34,⟨[7,36,37,38],[([7],9,Aq,1000000)],[],[(45056,1000000)],[]⟩)]
def AqK:Lk:=⟨[],[(34,⟨[(7,.c (xo 1000000)),(36,.c (xo 41728)),(37,.i),(38,.c x64)],[(41728,.arr 3 false Au),(1000000,.arr 9 false Aq)]⟩,[(0,⟨[(7,.c (xo 1004096))],[(1004096,.arr 9 false Aq)]⟩)])]⟩
def WO:Sig:=.of [J7] [J7,J4] (fun a=>UW N a)
def VV (N:Nat):Jw 200 (WO N):=J3 (Jz [(276,Ady N),(277,Ab2 N),(209,fB N)] AoD) AqK Tryz.f200 N (Jv ⟨Ajx N,AhL N,nK N,trivial⟩)
def Afg:Sig:=.of [J4,J7] [Sq7] (fun a=>Aks N a.1 a.2)
def Akt (N:Nat):Jw 270 (Afg N):=J3 (Jz [(268,kG N)] []) ⟨[],[]⟩ Tryz.f270 N (Jv ⟨qO N,trivial⟩)
def Afh:List (Nat×Nrm):=[(29,⟨[8,9],[],[],[],[]⟩)]
def Ah4:Lk:=⟨[(29,⟨[(8,.i),(9,.c x64)],[(0,.box [Bl])]⟩)],[]⟩
def lW:Sig:=.of [TD,J4] [JS,J4] (fun a=>wG N a.1 a.2)
def AbV (N:Nat):Jw 356 (lW N):=J3 (Jz [(109,PZ N),(307,eG N)] Afh) Ah4 Tryz.f356 N (Jv ⟨PQ N,mP N,trivial⟩)
def gB:Sig:=.of [J7] [J7,J4,J4] (fun a=>Zk N a)
def eF (N:Nat):Jw 113 (gB N):=J3 (Jz [(150,sN N)] []) ⟨[],[]⟩ Tryz.f113 N (Jv ⟨xH N,trivial⟩)
open Go.Proofs
def AuW:List (Nat×Nrm):=[(3,⟨[3],[],[],[],[]⟩),(22,⟨[0,3,4],[],[],[],[]⟩)]
def AwW:Lk:=⟨[],[(22,⟨[(0,.i),(3,.c x64),(4,.c x64)],[]⟩,[(0,⟨[(3,.c x64)],[]⟩)])]⟩
def Aod:Sig:=.of [J7] [J4] (fun a=>Atj N a)
def AqM (N:Nat):Jw 283 (Aod N):=J3 (Jz [] AuW [] [] [] [7,11,12,16,20,21]) AwW Tryz.f283 N (Jv trivial)
def Alo:Sig:=.of [J4,J4] [JS] (fun a=>AqO N a.1 a.2)
def AoG (N:Nat):Jw 284 (Alo N):=J3 (Jz [] []) ⟨[],[]⟩ Tryz.f284 N (Jv trivial)
def AdE:Sig:=.of [.cell false (.int .u8)] [JS] (fun a=>Ai4 N a)
def AjL (N:Nat):Jw 363 (AdE N):=J3 (Jz [] [] [] [] [] [5,8,9,12,15,16,17,20,23,24]) ⟨[],[]⟩ Tryz.f363 N (Jv trivial)
def An1:Sig:=.of [.cell false (.int .u8)] [JS] (fun a=>uJ N a)
def AhO (N:Nat):Jw 365 (An1 N):=J3 (Jz [] []) ⟨[],[]⟩ Tryz.f365 N (Jv trivial)
def AkD:Sig:=.of [J4] [J4] (fun a=>Acg N a)
def Ao3 (N:Nat):Jw 279 (AkD N):=J3 (Jz [] []) ⟨[],[]⟩ Tryz.f279 N (Jv trivial)
def kP:Sig:=.of [.cell false (.int .u8)] [JS] (fun a=>zC N a)
def rC (N:Nat):Jw 448 (kP N):=J3 (Jz [] [] [] [] [] [5,8,9,12,15,16]) ⟨[],[]⟩ Tryz.f448 N (Jv trivial)
def qZ:Sig:=.of [.cell false (.int .u8)] [JS] (fun a=>o6 N a)
def wQ (N:Nat):Jw 449 (qZ N):=J3 (Jz [] []) ⟨[],[]⟩ Tryz.f449 N (Jv trivial)
open Go.Proofs
def Asu:List (Nat×Nrm):=[(3,⟨[4],[([4],3,Au,1004096)],[],[(1000000,1004096)],[]⟩),(26,⟨[4,18,19,20],[([4],3,Au,1000000)],[],[(40704,1000000)],[]⟩)]
def AuX:Lk:=⟨[],[(26,⟨[(4,.c (xo 1000000)),(18,.i),(19,.i),(20,.c x64)],[(1000000,.arr 3 false Au)]⟩,[(0,⟨[(4,.c (xo 1004096))],[(1004096,.arr 3 false Au)]⟩)])]⟩
def Ac5:Sig:=.of [J7] [Sq0] (fun a=>Ajw N a)
def Adx (N:Nat):Jw 207 (Ac5 N):=J3 (Jz [(282,Wh N),(283,Aod N),(284,Alo N)] Asu) AuX Tryz.f207 N (Jv ⟨jQ N,AqM N,AoG N,trivial⟩)
def An0:Sig:=.of [.cell false (.int .u8)] [JS] (fun a=>uI N a)
def AhN (N:Nat):Jw 362 (An0 N):=J3 (Jz [(363,AdE N),(364,VK N)] []) ⟨[],[]⟩ Tryz.f362 N (Jv ⟨AjL N,Yp N,trivial⟩)
def Ao7:List (Nat×Nrm):=[(3,⟨[],[],[],[],[]⟩),(18,⟨[27,28,29],[],[],[],[]⟩)]
def Aqx:Lk:=⟨[],[(18,⟨[(27,.c (xo 39680)),(28,.i),(29,.c x64)],[(39680,.arr 5 false Ar)]⟩,[(0,⟨[],[]⟩)])]⟩
def Af7:Sig:=.of [J7] [JS] (fun a=>AkM N a)
def AkN (N:Nat):Jw 445 (Af7 N):=J3 (Jz [(448,kP N),(449,qZ N)] Ao7 [] [] [] [8,12,13,17,18,25]) Aqx Tryz.f445 N (Jv ⟨rC N,wQ N,trivial⟩)
def Ao8:List (Nat×Nrm):=[(3,⟨[],[],[],[],[]⟩),(18,⟨[32,33,34],[],[],[],[]⟩)]
def Aqy:Lk:=⟨[],[(18,⟨[(32,.c (xo 40960)),(33,.i),(34,.c x64)],[(40960,.arr 5 false Ar)]⟩,[(0,⟨[],[]⟩)])]⟩
def Af8:Sig:=.of [J7] [JS] (fun a=>Aco N a)
def AkO (N:Nat):Jw 409 (Af8 N):=J3 (Jz [(411,Xc N),(448,kP N),(449,qZ N),(364,VK N)] Ao8 [] [] [] [9,13,14,18,19,26,27,30]) Aqy Tryz.f409 N (Jv ⟨Zt N,rC N,wQ N,Yp N,trivial⟩)
def Ao5:List (Nat×Nrm):=[(3,⟨[],[],[],[],[]⟩),(26,⟨[3,4,5,6],[],[],[],[]⟩)]
def Aqw:Lk:=⟨[],[(26,⟨[(3,.i),(4,.i),(5,.c xb),(6,.c x64)],[]⟩,[(0,⟨[],[]⟩)])]⟩
def Af6:Sig:=.of [J7] [JS] (fun a=>Acm N a)
def AkK (N:Nat):Jw 370 (Af6 N):=J3 (Jz [(412,Ads N),(413,AkL N)] Ao5 [] [] [] [32,34,35,38,42,43]) Aqw Tryz.f370 N (Jv ⟨Aji N,Ao6 N,trivial⟩)
def Ld:Sig:=.of [.box [(false,.bool)],J4,Sq6] [J7] (fun a=>KA N a.1 a.2.1 a.2.2)
def KU (N:Nat):Jw 58 (Ld N):=J3 (Jz [(123,Oy N),(55,Lu N)] []) ⟨[],[]⟩ Tryz.f58 N (Jv ⟨Nr N,La N,trivial⟩)
open Go.Proofs
def TP:Sig:=.of [J7] [JS] (fun a=>OM N a)
def RD (N:Nat):Jw 214 (TP N):=J3 (Jz [(207,Ac5 N)] []) ⟨[],[]⟩ Tryz.f214 N (Jv ⟨Adx N,trivial⟩)
def AnJ (N n:Nat):Sig:=.of [.cell false (.int .u8)] [.cell false .bool] (AsZ N n)
def Aul (N:Nat):Xi Tryz.prog (AnJ N):=YY (J6:=[.cell false (.int .u8)]) (JJ:=[.cell false .bool]) (l:=[(362,fun a=>uI N a),(365,fun a=>uJ N a)]) ⟨AhN N,AhO N,trivial⟩
def Asb:List (Nat×Nrm):=[(3,⟨[],[],[],[],[]⟩),(18,⟨[9,10,11],[],[],[],[]⟩)]
def Au4:Lk:=⟨[],[(18,⟨[(9,.i),(10,.i),(11,.c x64)],[]⟩,[(0,⟨[],[]⟩)])]⟩
def ZH:Sig:=.of [J7] [JS] (fun a=>TL N a)
def Yv (N:Nat):Jw 406 (ZH N):=J3 (Jz [(282,Wh N),(445,Af7 N)] Asb) Au4 Tryz.f406 N (Jv ⟨jQ N,AkN N,trivial⟩)
def MB:Sig:=.of [.box [(false,.bool)],Sq6] [J7] (fun a=>KR N a.1 a.2)
def LH (N:Nat):Jw 52 (MB N):=J3 (Jz [(58,Ld N)] []) ⟨[],[]⟩ Tryz.f52 N (Jv ⟨KU N,trivial⟩)
def UJ:Sig:=.of [.box [(false,.bool)],J4] [J7] (fun a=>Uh N a.1 a.2)
def VF (N:Nat):Jw 53 (UJ N):=J3 (Jz [(119,XY N),(58,Ld N)] []) ⟨[],[]⟩ Tryz.f53 N (Jv ⟨aC N,KU N,trivial⟩)
def kD:Sig:=.of [J4] [J4] (fun a=>fJ N a)
def qM (N:Nat):Jw 211 (kD N):=J3 (Jz [] [] [] [(7,Afi N),(12,Afi N)]) ⟨[],[]⟩ Tryz.f211 N (Jv trivial trivial ⟨Akv N,Akv N,trivial⟩)
def Xg:Sig:=.of [J7] [NL,J4] (fun a=>SV N a)
def Ut (N:Nat):Jw 148 (Xg N):=J3 (Jz [(239,oN N)] []) ⟨[],[]⟩ Tryz.f148 N (Jv ⟨lN N,trivial⟩)
open Go.Proofs
def dP:Sig:=.of [] [AxC] (fun _=>ZG N)
def mG (N:Nat):Jw 434 (dP N):=J3 (Jz [] []) ⟨[],[]⟩ Tryz.f434 N (Jv trivial)
def Aid:Sig:=.of [.cell false (.int .u32),.cell false (.int .u64)] [.cell false (.int .u32)] (fun a=>Qw N a.1 a.2)
def AmC (N:Nat):Jw 462 (Aid N):=J3 (Jz [] []) ⟨[],[]⟩ Tryz.f462 N (Jv trivial)
def Adr:Sig:=.of [] [A2V] (fun _=>Aic N)
def Ajh (N:Nat):Jw 463 (Adr N):=J3 (Jz [] []) ⟨[],[]⟩ Tryz.f463 N (Jv trivial)
def S9:Sig:=.of [AlX] [JS] (fun a=>NQ N a)
def TN (N:Nat):Jw 179 (S9 N):=J3 (Jz [] []) ⟨[],[]⟩ Tryz.f179 N (Jv trivial)
def Anl:List (Nat×Nrm):=[(3,⟨[0,5,6],[],[],[],[]⟩),(11,⟨[0,5,6],[],[],[],[]⟩),(18,⟨[0,1,5,6,7],[],[],[],[]⟩),(19,⟨[0,13,14,15,16,17,18,19,20],[],[],[],[]⟩),(34,⟨[0,5,6,8],[],[],[],[]⟩),(66,⟨[0,5,6,13,14,15,16,17,18,19,20,21],[],[],[],[]⟩)]
def AoV:Lk:=⟨[],[(18,⟨[(0,.i),(1,.i),(5,.c (xo 39424)),(6,.c (.c (.Kr 34304 0 0))),(7,.c x64)],[(34304,.arr 271 false Az),(39424,.arr 203 false Az)]⟩,[(0,⟨[(0,.i),(5,.c (xo 39424)),(6,.c (.c (.Kr 34304 0 0)))],[(34304,.arr 271 false Az),(39424,.arr 203 false Az)]⟩)]),(34,⟨[(0,.i),(5,.c (xo 39424)),(6,.c (.c (.Kr 34304 0 0))),(8,.c x64)],[(34304,.arr 271 false Az),(39424,.arr 203 false Az)]⟩,[(2,⟨[(0,.i),(5,.c (xo 39424)),(6,.c (.c (.Kr 34304 0 0)))],[(34304,.arr 271 false Az),(39424,.arr 203 false Az)]⟩)]),(66,⟨[(0,.i),(5,.c (xo 39424)),(6,.c (.c (.Kr 34304 0 0))),(13,.c Bf),(14,.c Bf),(15,.c Bf),(16,.c Bf),(17,.c Bf),(18,.c Bf),(19,.c Bf),(20,.c Bf),(21,.c x64)],[(34304,.arr 271 false Az),(39424,.arr 203 false Az)]⟩,[(4,⟨[(0,.i),(13,.c Bf),(14,.c Bf),(15,.c Bf),(16,.c Bf),(17,.c Bf),(18,.c Bf),(19,.c Bf),(20,.c Bf)],[]⟩)])]⟩
def Ad5:Sig:=.of [A1k,J7] [A1k] (fun a=>Yj N a.1 a.2)
def Aj8 (N:Nat):Jw 153 (Ad5 N):=J3 (Jz [] Anl) AoV Tryz.f153 N (Jv trivial)
def AlF:Sig:=.of [J4] [J7] (fun a=>AcL N a)
def Apc (N:Nat):Jw 80 (AlF N):=J3 (Jz [] []) ⟨[],[]⟩ Tryz.f80 N (Jv trivial)
def Ri:Sig:=.of [AiA] [JS] (fun a=>OO N a)
def SH (N:Nat):Jw 92 (Ri N):=J3 (Jz [] []) ⟨[],[]⟩ Tryz.f92 N (Jv trivial)
def fU:Sig:=.of [J4] [J7] (fun a=>iV N a)
def dX (N:Nat):Jw 242 (fU N):=J3 (Jz [] []) ⟨[],[]⟩ Tryz.f242 N (Jv trivial)
open Go.Proofs
def Aip:Sig:=.of [J4] [J7] (fun a=>AnX N a)
def AmS (N:Nat):Jw 258 (Aip N):=J3 (Jz [] []) ⟨[],[]⟩ Tryz.f258 N (Jv trivial)
def Ac7:Sig:=.of [J4] [J7] (fun a=>Abi N a)
def zM (N:Nat):Jw 349 (Ac7 N):=J3 (Jz [] []) ⟨[],[]⟩ Tryz.f349 N (Jv trivial)
def Aj0:Sig:=.of [J4] [J7] (fun a=>Abh N a)
def Aiu (N:Nat):Jw 350 (Aj0 N):=J3 (Jz [] []) ⟨[],[]⟩ Tryz.f350 N (Jv trivial)
def Asw:List (Nat×Nrm):=[(3,⟨[3],[],[],[],[]⟩),(14,⟨[3,10,11,12],[],[],[],[]⟩)]
def Avd:Lk:=⟨[],[(14,⟨[(3,.c (xo 35072)),(10,.i),(11,.i),(12,.c x64)],[(35072,.arr 5 false Ar)]⟩,[(0,⟨[(3,.c (xo 35072))],[(35072,.arr 5 false Ar)]⟩)])]⟩
def Ac8:Sig:=.of [Sq6] [J7] (fun a=>sD N a)
def Ad0 (N:Nat):Jw 304 (Ac8 N):=J3 (Jz [] Asw [] [] [20]) Avd Tryz.f304 N (Jv trivial)
def ZV:Sig:=.of [J7,J4] [J4] (fun a=>SQ N a.1 a.2)
def jA (N:Nat):Jw 254 (ZV N):=J3 (Jz [] []) ⟨[],[]⟩ Tryz.f254 N (Jv trivial)
def bT:Sig:=.of [A2X] [J7] (fun a=>mO N a)
def zK (N:Nat):Jw 181 (bT N):=J3 (Jz [] []) ⟨[],[]⟩ Tryz.f181 N (Jv trivial)
def sU (N n:Nat):Sig:=.of [.cell false (.int .i64)] [.cell false .str] (fun a=>jE N n a)
def xJ (N:Nat): ∀ n,Spec Tryz.prog 94 (sU N n)
 | 0=>Ag9 (C:=ctx Tryz.prog [] []) (fn:=Tryz.f94) (Jv (gs:=[]) trivial) (by kernel_rfl) (by kernel_rfl)
 | n+1=>Qq (C:=ctx Tryz.prog ((94,sU N n)::[]) []) (L:=⟨[],[]⟩) (fn:=Tryz.f94) (N:=N) (Jv ⟨xJ N n,trivial⟩)
def zQ:Sig:=sU N N
def Abk (N:Nat):Spec Tryz.prog 94 (zQ N):=xJ N N
def AoH:List (Nat×Nrm):=[(3,⟨[4,5],[([4],3,Au,1004096)],[],[(1000000,1004096)],[]⟩),(26,⟨[4,5,14,15,16],[([4],3,Au,1000000)],[],[(40448,1000000)],[]⟩)]
def AqU:Lk:=⟨[],[(26,⟨[(4,.c (xo 1000000)),(5,.c x64),(14,.c (xo 36352)),(15,.i),(16,.c x64)],[(36352,.arr 5 false Ar),(1000000,.arr 3 false Au)]⟩,[(0,⟨[(4,.c (xo 1004096)),(5,.c x64)],[(1004096,.arr 3 false Au)]⟩)])]⟩
def rZ:Sig:=.of [J7] [ApE,J4] (fun a=>UX N a)
def xB (N:Nat):Jw 255 (rZ N):=J3 (Jz [] AoH) AqU Tryz.f255 N (Jv trivial)
open Go.Proofs
def Uk:Sig:=.of [NL] [J4] (fun a=>Ot N a)
def TW (N:Nat):Jw 165 (Uk N):=J3 (Jz [] [] [] [] [] [6,10,11,16,17,22]) ⟨[],[]⟩ Tryz.f165 N (Jv trivial)
def AmR:List (Nat×Nrm):=[(3,⟨[4],[],[],[],[]⟩),(22,⟨[4,12,13,14],[],[],[],[]⟩)]
def AoB:Lk:=⟨[],[(22,⟨[(4,.c x64),(12,.c (xo 35840)),(13,.i),(14,.c x64)],[(35840,.arr 5 false Ar)]⟩,[(0,⟨[(4,.c x64)],[]⟩)])]⟩
def Adw:Sig:=.of [J7] [J4,JS] (fun a=>fQ N a)
def Ajt (N:Nat):Jw 175 (Adw N):=J3 (Jz [] AmR) AoB Tryz.f175 N (Jv trivial)
def Acz:Sig:=.of [ApE] [Zv] (fun a=>dV N a)
def Adu (N:Nat):Jw 8 (Acz N):=J3 (Jz [] []) ⟨[],[]⟩ Tryz.f8 N (Jv trivial)
def AoS:List (Nat×Nrm):=[(3,⟨[0,6],[],[],[],[]⟩),(22,⟨[0,6,22,23,24],[],[],[],[]⟩),(77,⟨[6,10],[],[],[(43008,1008192),(46592,1008192),(49408,1008192),(51456,1008192)],[]⟩)]
def Arl:Lk:=⟨[(77,⟨[(6,.i),(10,.c (xo 1008192))],[(1008192,.arr 5 false Ar)]⟩)],[(22,⟨[(0,.i),(6,.c xs),(22,.i),(23,.i),(24,.c x64)],[]⟩,[(0,⟨[(0,.i),(6,.c xs)],[]⟩)])]⟩
def aI:Sig:=.of [J4,Sq6] [J7,J4] (fun a=>Vb N a.1 a.2)
def aJ (N:Nat):Jw 103 (aI N):=J3 (Jz [] AoS) Arl Tryz.f103 N (Jv trivial)
def AoT:List (Nat×Nrm):=[(3,⟨[4],[([4],3,Au,1012288)],[],[(1000000,1012288)],[]⟩),(11,⟨[0,4,6,8],[([4],3,Au,1008192)],[],[(1004096,1008192)],[]⟩),(18,⟨[0,4,5,6],[([4],3,Au,1000000)],[],[(53760,1000000)],[]⟩),(58,⟨[0,4,6,7,8,9],[([4],3,Au,1004096)],[],[(1000000,1004096)],[]⟩)]
def Arm:Lk:=⟨[],[(18,⟨[(0,.i),(4,.c (xo 1000000)),(5,.c x64),(6,.c x64)],[(1000000,.arr 3 false Au)]⟩,[(0,⟨[(4,.c (xo 1012288))],[(1012288,.arr 3 false Au)]⟩)]),(58,⟨[(0,.i),(4,.c (xo 1004096)),(6,.i),(7,.i),(8,.c x64),(9,.c x64)],[(1004096,.arr 3 false Au)]⟩,[(2,⟨[(0,.i),(4,.c (xo 1008192)),(6,.i),(8,.c x64)],[(1008192,.arr 3 false Au)]⟩)])]⟩
def sZ:Sig:=.of [J7] [ApE,JS] (fun a=>AcG N a)
def xQ (N:Nat):Jw 295 (sZ N):=J3 (Jz [] AoT [] [] [] [43,47,48,52,56,57,58,62,88,93,94,99,104,105]) Arm Tryz.f295 N (Jv trivial)
def AoR:List (Nat×Nrm):=[(3,⟨[0,2,5,6,8],[],[],[],[]⟩),(70,⟨[0,2,5,6,8,9],[],[],[],[]⟩),(97,⟨[0,2,5,6,7],[],[],[],[]⟩)]
def Arj:Lk:=⟨[(97,⟨[(0,.i),(2,.c AL),(5,.c AX),(6,.c x64),(7,.c x64)],[(33280,.box BH),(34048,.box BH)]⟩)],[(70,⟨[(0,.i),(2,.c AL),(5,.c AX),(6,.c x64),(8,.i),(9,.c x64)],[(33280,.box BH),(34048,.box BH)]⟩,[(0,⟨[(0,.i),(2,.c AL),(5,.c AX),(6,.c x64),(8,.i)],[(33280,.box BH),(34048,.box BH)]⟩)])]⟩
def sW:Sig:=.of [J7] [NL,J7,J4] (fun a=>aG N a)
def xO (N:Nat):Jw 102 (sW N):=J3 (Jz [] AoR) Arj Tryz.f102 N (Jv trivial)
def AoW:List (Nat×Nrm):=[(3,⟨[],[],[],[],[]⟩),(10,⟨[0,3],[],[],[],[]⟩),(15,⟨[0,3,5,6,7],[],[],[],[]⟩),(65,⟨[0,3,4,5,6],[],[],[],[]⟩),(82,⟨[0,3,5,6,7,8],[],[],[],[]⟩)]
def Aro:Lk:=⟨[(65,⟨[(0,.i),(3,.c x64),(4,.i),(5,.c x64),(6,.c x64)],[]⟩)],[(10,⟨[(0,.i),(3,.c x64)],[]⟩,[(0,⟨[],[]⟩)]),(82,⟨[(0,.i),(3,.i),(5,.i),(6,.i),(7,.c x64),(8,.c x64)],[]⟩,[(3,⟨[(0,.i),(3,.i),(5,.i),(6,.i),(7,.c x64)],[]⟩)])]⟩
def Agi:Sig:=.of [J7] [JS] (fun a=>AlA N a)
def AlB (N:Nat):Jw 378 (Agi N):=J3 (Jz [] AoW [] [] [] [87,90,91,94,97,98]) Aro Tryz.f378 N (Jv trivial)
def Y1:Sig:=.of [.cell false (.int .u8)] [JS] (fun a=>Yh N a)
def YP (N:Nat):Jw 379 (Y1 N):=J3 (Jz [] [] [] [] [] [5,8,9,12,15,16,17,20,23,24]) ⟨[],[]⟩ Tryz.f379 N (Jv trivial)
open Go.Proofs
def Aeg:List (Nat×Nrm):=[(3,⟨[2,4,5],[],[],[],[]⟩),(11,⟨[2,4,5],[],[],[],[]⟩),(14,⟨[1,2,4,5,6],[],[],[],[]⟩),(19,⟨[2,4,11],[],[],[],[]⟩),(27,⟨[4,11],[],[],[],[]⟩),(30,⟨[2,4,5,7],[],[],[],[]⟩),(62,⟨[2,4,5,10,11,12],[],[],[],[]⟩),(98,⟨[2,4,11,204],[],[],[],[]⟩)]
def Af3:Lk:=⟨[],[(14,⟨[(1,.i),(2,.c (.c (.Kr 33280 0 0))),(4,.c (.c (.Kr 33792 0 0))),(5,.c (.c (.Kr 34048 0 0))),(6,.c x64)],[(33280,.arr 392 false Az),(33792,.arr 392 false Az),(34048,.arr 271 false Az)]⟩,[(0,⟨[(2,.c (.c (.Kr 33280 0 0))),(4,.c (.c (.Kr 33792 0 0))),(5,.c (.c (.Kr 34048 0 0)))],[(33280,.arr 392 false Az),(33792,.arr 392 false Az),(34048,.arr 271 false Az)]⟩)]),(30,⟨[(2,.c (.c (.Kr 33280 0 0))),(4,.c (.c (.Kr 33792 0 0))),(5,.c (.c (.Kr 34048 0 0))),(7,.c x64)],[(33280,.arr 392 false Az),(33792,.arr 392 false Az),(34048,.arr 271 false Az)]⟩,[(2,⟨[(2,.c (.c (.Kr 33280 0 0))),(4,.c (.c (.Kr 33792 0 0))),(5,.c (.c (.Kr 34048 0 0)))],[(33280,.arr 392 false Az),(33792,.arr 392 false Az),(34048,.arr 271 false Az)]⟩)]),(62,⟨[(2,.c (.c (.Kr 33280 0 0))),(4,.c (.c (.Kr 33792 0 0))),(5,.c (.c (.Kr 34048 0 0))),(10,.c (.c (.Kr 35328 0 0))),(11,.c (.c (.Kr 35584 0 0))),(12,.c x64)],[(33280,.arr 392 false Az),(33792,.arr 392 false Az),(34048,.arr 271 false Az),(35328,.arr 271 false Az),(35584,.arr 392 false Az)]⟩,[(4,⟨[(2,.c (.c (.Kr 33280 0 0))),(4,.c (.c (.Kr 33792 0 0))),(11,.c (.c (.Kr 35584 0 0)))],[(33280,.arr 392 false Az),(33792,.arr 392 false Az),(35584,.arr 392 false Az)]⟩)]),(98,⟨[(2,.c (.c (.Kr 33280 0 0))),(4,.c (.c (.Kr 33792 0 0))),(11,.c (.c (.Kr 35584 0 0))),(204,.c x64)],[(33280,.arr 392 false Az),(33792,.arr 392 false Az),(35584,.arr 392 false Az)]⟩,[(6,⟨[(4,.c (.c (.Kr 33792 0 0))),(11,.c (.c (.Kr 35584 0 0)))],[(33792,.arr 392 false Az),(35584,.arr 392 false Az)]⟩)])]⟩
def WI:Sig:=.of [AxC,A2W] [AxC] (fun a=>RV N a.1 a.2)
def Zf (N:Nat):Jw 435 (WI N):=J3 (Jz [(462,Aid N),(463,Adr N)] Aeg) Af3 Tryz.f435 N (Jv ⟨AmC N,Ajh N,trivial⟩)
def QW:Sig:=.of [AlX] [J4] (fun a=>Nk N a)
def SC (N:Nat):Jw 152 (QW N):=J3 (Jz [(179,S9 N)] []) ⟨[],[]⟩ Tryz.f152 N (Jv ⟨TN N,trivial⟩)
def Ark:List (Nat×Nrm):=[(3,⟨[3],[],[],[],[]⟩),(11,⟨[3,6,9],[],[],[],[]⟩),(14,⟨[3,15,16,17],[],[],[],[]⟩),(19,⟨[6],[],[(none,6,Az)],[],[]⟩),(27,⟨[12],[],[],[(51456,1032768),(1028672,1032768)],[]⟩),(49,⟨[3,6,7,8],[],[],[],[]⟩),(62,⟨[3,6,7,9,10],[],[],[],[]⟩),(82,⟨[3,6,11],[],[(none,6,Az)],[],[]⟩),(102,⟨[12,74,75,76],[],[],[(51456,1028672),(56576,1028672)],[]⟩)]
def As0:Lk:=⟨[(49,⟨[(3,.i),(6,.c (xo 39168)),(7,.i),(8,.c x64)],[(39168,.arr 203 false Az)]⟩)],[(14,⟨[(3,.c xs),(15,.i),(16,.i),(17,.c x64)],[]⟩,[(0,⟨[(3,.c xs)],[]⟩)]),(62,⟨[(3,.i),(6,.c (xo 39168)),(7,.i),(9,.c (xo 41984)),(10,.c x64)],[(39168,.arr 203 false Az),(41984,.arr 5 false Ar)]⟩,[(2,⟨[(3,.i),(6,.c (xo 39168)),(9,.c (xo 41984))],[(39168,.arr 203 false Az),(41984,.arr 5 false Ar)]⟩)]),(82,⟨[(3,.i),(6,.c (xl Az)),(11,.c x64)],[]⟩,[(4,⟨[(6,.c (xl Az))],[]⟩)]),(102,⟨[(12,.c (xo 1028672)),(74,.i),(75,.i),(76,.c x64)],[(1028672,.arr 5 false Ar)]⟩,[(6,⟨[(12,.c (xo 1032768))],[(1032768,.arr 5 false Ar)]⟩)])]⟩
def Aiy:Sig:=.of [Sq6] [J7] (fun a=>xP N a)
def Ani (N:Nat):Jw 79 (Aiy N):=J3 (Jz [(153,Ad5 N)] Ark) As0 Tryz.f79 N (Jv ⟨Aj8 N,trivial⟩)
def ZW:Sig:=.of [J7,J7,J4] [J4] (fun a=>Vu N a.1 a.2.1 a.2.2)
def jB (N:Nat):Jw 302 (ZW N):=J3 (Jz [(254,ZV N)] []) ⟨[],[]⟩ Tryz.f302 N (Jv ⟨jA N,trivial⟩)
def Ah9:List (Nat×Nrm):=[(17,⟨[0,2,3],[],[],[],[]⟩)]
def Ajo:Lk:=⟨[(17,⟨[(0,.i),(2,.c AL),(3,.c xs)],[(33280,.box BP),(33281,.JZ 144 false Aw)]⟩)],[]⟩
def YJ:Sig:=.of [J4] [Sq1] (fun a=>OL N a)
def bQ (N:Nat):Jw 29 (YJ N):=J3 (Jz [(94,zQ N)] Ah9) Ajo Tryz.f29 N (Jv ⟨Abk N,trivial⟩)
def eH:Sig:=.of [J7,J4] [J7,J4] (fun a=>WS N a.1 a.2)
def mQ (N:Nat):Jw 76 (eH N):=J3 (Jz [(150,sN N)] []) ⟨[],[]⟩ Tryz.f76 N (Jv ⟨xH N,trivial⟩)
def TR:Sig:=.of [J4,Sq6] [J7,J4] (fun a=>Lm N a.1 a.2)
def RG (N:Nat):Jw 67 (TR N):=J3 (Jz [(103,aI N)] []) ⟨[],[]⟩ Tryz.f67 N (Jv ⟨aJ N,trivial⟩)
def LM:Sig:=.of [J4,Sq6] [J7] (fun a=>JG N a.1 a.2)
def Lc (N:Nat):Jw 43 (LM N):=J3 (Jz [(103,aI N)] []) ⟨[],[]⟩ Tryz.f43 N (Jv ⟨aJ N,trivial⟩)
open Go.Proofs
def Apn:List (Nat×Nrm):=[(3,⟨[],[],[],[],[]⟩),(18,⟨[1,5],[],[],[],[]⟩)]
def Ar5:Lk:=⟨[],[(18,⟨[(1,.i),(5,.c xs)],[]⟩,[(0,⟨[],[]⟩)])]⟩
def lQ (N n:Nat):Sig:=.of [NL,.cell false (.int .i64)] [.cell false (.int .i64)] (fun a=>Vj N n a.1 a.2)
def uM (N:Nat): ∀ n,Spec Tryz.prog 291 (lQ N n)
 | 0=>Ag9 (C:=ctx Tryz.prog [] []) (fn:=Tryz.f291) (Jv (gs:=[]) trivial) (by kernel_rfl) (by kernel_rfl)
 | n+1=>Qq (C:=ctx Tryz.prog ((291,lQ N n)::[(239,oN N)]) Apn) (L:=Ar5) (fn:=Tryz.f291) (N:=N) (Jv ⟨uM N n,⟨lN N,trivial⟩⟩)
def AgL:Sig:=lQ N N
def AlU (N:Nat):Spec Tryz.prog 291 (AgL N):=uM N N
def AoE:List (Nat×Nrm):=[(3,⟨[5],[],[],[(37888,1004096),(1000000,1004096)],[]⟩),(26,⟨[5,22,23,24],[],[],[(37888,1000000),(40448,1000000)],[]⟩)]
def AqL:Lk:=⟨[],[(26,⟨[(5,.c (xo 1000000)),(22,.i),(23,.i),(24,.c x64)],[(1000000,.arr 5 true Ar)]⟩,[(0,⟨[(5,.c (xo 1004096))],[(1004096,.arr 5 true Ar)]⟩)])]⟩
def WQ:Sig:=.of [J7] [J7,J4] (fun a=>Tt N a)
def VW (N:Nat):Jw 122 (WQ N):=J3 (Jz [(207,Ac5 N),(208,Aoe N)] AoE) AqL Tryz.f122 N (Jv ⟨Adx N,AqN N,trivial⟩)
def lX:Sig:=.of [.box [(false,.bool)],J4,JS] [J7] (fun a=>wH N a.1 a.2.1 a.2.2)
def AbW (N:Nat):Jw 219 (lX N):=J3 (Jz [(216,XX N),(58,Ld N)] []) ⟨[],[]⟩ Tryz.f219 N (Jv ⟨aA N,KU N,trivial⟩)
def AsB:List (Nat×Nrm):=[(3,⟨[4],[([4],89,Tq5,1004096)],[],[(1000000,1004096)],[]⟩),(10,⟨[0,4],[([4],89,Tq5,1000000)],[],[(38400,1000000)],[]⟩)]
def Av2:Lk:=⟨[],[(10,⟨[(0,.c xs),(4,.c (xo 1000000))],[(1000000,.arr 89 false Tq5)]⟩,[(0,⟨[(4,.c (xo 1004096))],[(1004096,.arr 89 false Tq5)]⟩)])]⟩
def Ox:Sig:=.of [J7] [.cell false (.sl 89 Tq5),J4] (fun a=>NT N a)
def Nq (N:Nat):Jw 192 (Ox N):=J3 (Jz [(239,oN N)] AsB) Av2 Tryz.f192 N (Jv ⟨lN N,trivial⟩)
def AoL:List (Nat×Nrm):=[(3,⟨[8],[],[],[],[]⟩),(46,⟨[4,8,35,36],[],[],[],[]⟩)]
def AqY:Lk:=⟨[],[(46,⟨[(4,.i),(8,.c x64),(35,.i),(36,.c x64)],[]⟩,[(0,⟨[(8,.c x64)],[]⟩)])]⟩
def sK:Sig:=.of [J7] [J4,J4] (fun a=>UY N a)
def xG (N:Nat):Jw 357 (sK N):=J3 (Jz [(113,gB N),(402,Al3 N)] AoL) AqY Tryz.f357 N (Jv ⟨eF N,AoM N,trivial⟩)
def Aci:List (Nat×Nrm):=[(3,⟨[0,4],[],[(none,4,Ar)],[],[]⟩),(13,⟨[0,1],[],[],[],[]⟩),(22,⟨[0,4],[],[(none,4,Ar)],[],[41728]⟩)]
def Aef:Lk:=⟨[(13,⟨[(0,.c AO),(1,.i)],[(0,.box BA)]⟩)],[(22,⟨[(0,.c AO),(4,.c Bq)],[(0,.box BA)]⟩,[(0,⟨[(0,.c AO),(4,.c Bq)],[(0,.box BA)]⟩)])]⟩
def bP:Sig:=.of [AxB,J7] [] (fun a=>TV N a.1 a.2)
def zA (N:Nat):Jw 388 (bP N):=J3 (Jz [(434,dP N),(435,WI N)] Aci) Aef Tryz.f388 N (Jv ⟨mG N,Zf N,trivial⟩)
open Go.Proofs
def XH:Sig:=.of [Sq5] [J7,J4] (fun a=>OG N a)
def kJ (N:Nat):Jw 124 (XH N):=J3 (Jz [(122,WQ N),(123,Oy N)] []) ⟨[],[]⟩ Tryz.f124 N (Jv ⟨VW N,Nr N,trivial⟩)
def Sv:Sig:=.of [] [J7] (fun _=>NP N)
def TM (N:Nat):Jw 54 (Sv N):=J3 (Jz [(122,WQ N),(123,Oy N)] []) ⟨[],[]⟩ Tryz.f54 N (Jv ⟨VW N,Nr N,trivial⟩)
def NY:Sig:=.of [J7,J4] [NL,J4] (fun a=>OD N a.1 a.2)
def Qv (N:Nat):Jw 73 (NY N):=J3 (Jz [(148,Xg N)] []) ⟨[],[]⟩ Tryz.f73 N (Jv ⟨Ut N,trivial⟩)
def Ug (N:Nat):Alt:=.of [.cell false .str] [TD,.cell false (.int .i64)] [.cell false .ptr,.cell false (.int .i64)] (fun a=>Qu N a)
def YE (N:Nat):Spec Tryz.prog 104 (Ug N).1/\Spec Tryz.prog 104 (Ug N).2.1:=Uy (C:=ctx Tryz.prog [(192,Ox N)] []) (L:=⟨[],[]⟩) (fn:=Tryz.f104) (N:=N) (Jv ⟨Nq N,trivial⟩) (by kernel_rfl) (by kernel_rfl) (fun a=>by kernel_rfl)
def RY:Sig:=.of [NL] [J4] (fun a=>Oq N a)
def Uw (N:Nat):Jw 112 (RY N):=J3 (Jz [(192,Ox N),(200,WO N)] []) ⟨[],[]⟩ Tryz.f112 N (Jv ⟨Nq N,VV N,trivial⟩)
def qR:List (Nat×Nrm):=[(85,⟨[2,4,5,7],[],[],[],[]⟩)]
def vG:Lk:=⟨[(85,⟨[(2,.c AL),(4,.c AU),(5,.i),(7,.i)],[(33280,.box [AB,AA,AB]),(33792,.box [AB,AA,AB])]⟩)],[]⟩
def XG:Sig:=.of [NL] [Sq5,J4] (fun a=>Za N a)
def kH (N:Nat):Jw 267 (XG N):=J3 (Jz [(192,Ox N),(200,WO N)] qR) vG Tryz.f267 N (Jv ⟨Nq N,VV N,trivial⟩)
def Akq:List (Nat×Nrm):=[(3,⟨[1,4],[],[],[],[]⟩),(30,⟨[1,4,5],[],[],[],[]⟩)]
def Ams:Lk:=⟨[],[(30,⟨[(1,.c AP),(4,.c x64),(5,.c x64)],[(33024,.box BQ)]⟩,[(0,⟨[(1,.c AP),(4,.c x64)],[(33024,.box BQ)]⟩)])]⟩
def AaG:Sig:=.of [Sq7] [J4,J4] (fun a=>Afd N a)
def Ah3 (N:Nat):Jw 269 (AaG N):=J3 (Jz [(212,kE N),(211,kD N)] Akq [] [] [] [9,13,14,18,19,23,24,28,29,38,42,46,47,51,52,56,57,61,62,66]) Ams Tryz.f269 N (Jv ⟨qN N,qM N,trivial⟩)
def Ajc:List (Nat×Nrm):=[(89,⟨[2,4,5,6],[],[],[],[]⟩)]
def Ak5:Lk:=⟨[(89,⟨[(2,.c AL),(4,.c AU),(5,.c AX),(6,.c Bl)],[(33280,.box [AB,AQ,AB]),(33792,.box [AB,AQ,AB]),(34048,.box [xs,xb,AB])]⟩)],[]⟩
def wI:Sig:=.of [NL] [At5,J4] (fun a=>QM N a)
def Afq (N:Nat):Jw 245 (wI N):=J3 (Jz [(192,Ox N),(200,WO N),(307,eG N)] Ajc) Ak5 Tryz.f245 N (Jv ⟨Nq N,VV N,mP N,trivial⟩)
open Go.Proofs
def Ana:List (Nat×Nrm):=[(3,⟨[],[],[],[],[]⟩),(10,⟨[0,1,5],[],[],[],[]⟩)]
def AoO:Lk:=⟨[],[(10,⟨[(0,.i),(1,.i),(5,.c x64)],[]⟩,[(0,⟨[],[]⟩)])]⟩
def kW:Sig:=.of [.cell false (.int .u8),J7] [JS] (fun a=>Yi N a.1 a.2)
def sQ (N:Nat):Jw 380 (kW N):=J3 (Jz [] Ana) AoO Tryz.f380 N (Jv trivial)
def Anh:List (Nat×Nrm):=[(3,⟨[3],[([3],9,Aq,1012288)],[],[(1000000,1012288)],[]⟩),(11,⟨[3,5,6,10,11,12],[([3],9,Aq,1008192)],[],[(1004096,1008192)],[1008192]⟩),(14,⟨[3,10,11,12],[([3],9,Aq,1000000)],[],[(43008,1000000)],[]⟩),(19,⟨[7],[],[],[],[]⟩),(26,⟨[3,5,6,10,11,12],[([3],9,Aq,1004096)],[],[(1000000,1004096)],[]⟩),(50,⟨[7,42,43,44],[],[],[],[]⟩)]
def AoQ:Lk:=⟨[],[(14,⟨[(3,.c (xo 1000000)),(10,.i),(11,.i),(12,.c x64)],[(1000000,.arr 9 false Aq)]⟩,[(0,⟨[(3,.c (xo 1012288))],[(1012288,.arr 9 false Aq)]⟩)]),(26,⟨[(3,.c (xo 1004096)),(5,.i),(6,.c x64),(10,.i),(11,.i),(12,.i)],[(1004096,.arr 9 false Aq)]⟩,[(2,⟨[(3,.c (xo 1008192)),(5,.i),(6,.c x64),(10,.i),(11,.i),(12,.i)],[(1008192,.arr 9 true Aq)]⟩)]),(50,⟨[(7,.c xs),(42,.c (xo 1012288)),(43,.i),(44,.c x64)],[(1012288,.arr 9 false Aq)]⟩,[(4,⟨[(7,.c xs)],[]⟩)])]⟩
def Ad2:Sig:=.of [Sq6] [J7] (fun a=>gG N a)
def Aj5 (N:Nat):Jw 135 (Ad2 N):=J3 (Jz [] Anh) AoQ Tryz.f135 N (Jv trivial)
def Abn:Sig:=.of [J4] [J4] (fun a=>tC N a)
def AhE (N:Nat):Jw 231 (Abn N):=J3 (Jz [] []) ⟨[],[]⟩ Tryz.f231 N (Jv trivial)
def Agh:Sig:=.of [J4,J4] [J4] (fun a=>AcH N a.1 a.2)
def Al9 (N:Nat):Jw 232 (Agh N):=J3 (Jz [] [] [] [] [] [7,11,12,16,20,21]) ⟨[],[]⟩ Tryz.f232 N (Jv trivial)
def Aep:List (Nat×Nrm):=[(3,⟨[4],[],[],[],[]⟩),(11,⟨[4],[],[(none,4,Ar)],[],[]⟩),(18,⟨[3,4,5],[([4],5,Ar,1000000)],[],[(37632,1000000)],[]⟩),(30,⟨[4],[],[(none,4,Ar)],[],[]⟩)]
def Agf:Lk:=⟨[],[(18,⟨[(3,.i),(4,.c (xo 1000000)),(5,.c x64)],[(1000000,.arr 5 false Ar)]⟩,[(0,⟨[(4,.c (xo 1000000))],[(1000000,.arr 5 false Ar)]⟩)]),(30,⟨[(4,.c Bq)],[]⟩,[(2,⟨[(4,.c Bq)],[]⟩)])]⟩
def jG:Sig:=.of [J4] [J7] (fun a=>Va N a)
def Abm (N:Nat):Jw 141 (jG N):=J3 (Jz [] Aep [] [] [] [23,28,33,34,39,44,45,46]) Agf Tryz.f141 N (Jv trivial)
def Ann:List (Nat×Nrm):=[(3,⟨[5],[([5],9,Aq,1004096)],[],[(1000000,1004096)],[]⟩),(18,⟨[0,1,5,6,7],[([5],9,Aq,1000000)],[],[(40704,1000000)],[]⟩)]
def AoY:Lk:=⟨[],[(18,⟨[(0,.i),(1,.i),(5,.c (xo 1000000)),(6,.c x64),(7,.c x64)],[(1000000,.arr 9 false Aq)]⟩,[(0,⟨[(5,.c (xo 1004096))],[(1004096,.arr 9 false Aq)]⟩)])]⟩
def lF:Sig:=.of [J7,.cell false (.int .u8)] [Sq6] (fun a=>gI N a.1 a.2)
def tK (N:Nat):Jw 433 (lF N):=J3 (Jz [] Ann) AoY Tryz.f433 N (Jv trivial)
def Anm:List (Nat×Nrm):=[(3,⟨[],[],[],[],[]⟩),(26,⟨[0,3,4,5],[],[],[],[]⟩)]
def AoX:Lk:=⟨[],[(26,⟨[(0,.i),(3,.i),(4,.c xb),(5,.c x64)],[]⟩,[(0,⟨[],[]⟩)])]⟩
def Ad6:Sig:=.of [J7] [JS] (fun a=>zT N a)
def Aj9 (N:Nat):Jw 385 (Ad6 N):=J3 (Jz [] Anm [] [] [] [37,39,40,43,54,55]) AoX Tryz.f385 N (Jv trivial)
def xR:Sig:=.of [J7] [JS] (fun a=>lC N a)
def Agj (N:Nat):Jw 386 (xR N):=J3 (Jz [] []) ⟨[],[]⟩ Tryz.f386 N (Jv trivial)
open Go.Proofs
def Ape:List (Nat×Nrm):=[(3,⟨[4],[],[],[],[]⟩),(10,⟨[1,4,8,9,10],[],[],[],[]⟩)]
def Ars:Lk:=⟨[],[(10,⟨[(1,.i),(4,.c AU),(8,.i),(9,.i),(10,.c x64)],[(33792,.box [AB,AQ,AB])]⟩,[(0,⟨[(4,.c AU)],[(33792,.box [AB,AQ,AB])]⟩)])]⟩
def tZ:Sig:=.of [.cell false (.sl 176 Tq4),J7] [At5,JS] (fun a=>aP N a.1 a.2)
def xY (N:Nat):Jw 229 (tZ N):=J3 (Jz [] Ape) Ars Tryz.f229 N (Jv trivial)
def WU:Sig:=.of [JS] [J7] (fun a=>UZ N a)
def Zm (N:Nat):Jw 263 (WU N):=J3 (Jz [] []) ⟨[],[]⟩ Tryz.f263 N (Jv trivial)
def AhC:List (Nat×Nrm):=[(3,⟨[0,4],[],[],[],[]⟩),(11,⟨[6],[],[],[],[]⟩),(22,⟨[0,4,5],[],[],[],[]⟩),(50,⟨[0,4,6,7],[],[],[],[]⟩)]
def Aj6:Lk:=⟨[],[(22,⟨[(0,.i),(4,.c x64),(5,.c x64)],[]⟩,[(0,⟨[(0,.i),(4,.c x64)],[]⟩)]),(50,⟨[(0,.i),(4,.i),(6,.c (xo 40192)),(7,.c x64)],[(40192,.arr 5 false Ar)]⟩,[(2,⟨[(6,.c (xo 40192))],[(40192,.arr 5 false Ar)]⟩)])]⟩
def sV:Sig:=.of [J4] [J7,J4] (fun a=>RF N a)
def Aeo (N:Nat):Jw 264 (sV N):=J3 (Jz [] AhC) Aj6 Tryz.f264 N (Jv trivial)
def Lt:Sig:=.of [Zv,J4] [J4] (fun a=>JK N a.1 a.2)
def KZ (N:Nat):Jw 35 (Lt N):=J3 (Jz [] []) ⟨[],[]⟩ Tryz.f35 N (Jv trivial)
def Agu:Sig:=.of [] [MP] (fun _=>AcQ N)
def AlG (N:Nat):Jw 144 (Agu N):=J3 (Jz [] []) ⟨[],[]⟩ Tryz.f144 N (Jv trivial)
open Go.Proofs
def Agd:List (Nat×Nrm):=[(3,⟨[6],[([6],5,Ar,1020480)],[],[(1000000,1020480)],[]⟩),(11,⟨[6,9,30,31,32],[([6],5,Ar,1008192)],[],[(1004112,1008192)],[]⟩),(19,⟨[6,9,30,31,32],[([6],5,Ar,1016384)],[],[(1012288,1016384)],[]⟩),(30,⟨[6,30,31,32],[([6],5,Ar,1000000)],[],[(48384,1000000)],[]⟩),(42,⟨[6,8,9,30,31,32],[([9],5,Ar,1004096),([6],5,Ar,1004112)],[],[(43264,1004096),(1000000,1004112)],[]⟩),(58,⟨[6,9,10,30,31,32],[([6],5,Ar,1012288)],[],[(1008192,1012288)],[]⟩)]
def AhB:Lk:=⟨[],[(30,⟨[(6,.c (xo 1000000)),(30,.c (xo 40192)),(31,.i),(32,.c x64)],[(40192,.arr 3 false Au),(1000000,.arr 5 false Ar)]⟩,[(0,⟨[(6,.c (xo 1020480))],[(1020480,.arr 5 false Ar)]⟩)]),(42,⟨[(6,.c (xo 1004112)),(8,.c x64),(9,.c (xo 1004096)),(30,.c (xo 40192)),(31,.i),(32,.i)],[(40192,.arr 3 false Au),(1004096,.arr 5 false Ar),(1004112,.arr 5 false Ar)]⟩,[(2,⟨[(6,.c (xo 1008192)),(9,.c (xo 43264)),(30,.c (xo 40192)),(31,.i),(32,.i)],[(40192,.arr 3 false Au),(43264,.arr 5 false Ar),(1008192,.arr 5 false Ar)]⟩)]),(58,⟨[(6,.c (xo 1012288)),(9,.c (xo 43264)),(10,.c x64),(30,.c (xo 40192)),(31,.i),(32,.i)],[(40192,.arr 3 false Au),(43264,.arr 5 false Ar),(1012288,.arr 5 false Ar)]⟩,[(4,⟨[(6,.c (xo 1016384)),(9,.c (xo 43264)),(30,.c (xo 40192)),(31,.i),(32,.i)],[(40192,.arr 3 false Au),(43264,.arr 5 false Ar),(1016384,.arr 5 false Ar)]⟩)])]⟩
def mV:Sig:=.of [J7] [J7,J4] (fun a=>xK N a)
def AcE (N:Nat):Jw 236 (mV N):=J3 (Jz [(295,sZ N)] Agd) AhB Tryz.f236 N (Jv ⟨xQ N,trivial⟩)
def Aix:Sig:=.of [J7] [NL,J4] (fun a=>xN N a)
def Anf (N:Nat):Jw 40 (Aix N):=J3 (Jz [(102,sW N)] []) ⟨[],[]⟩ Tryz.f40 N (Jv ⟨xO N,trivial⟩)
def Qg:Sig:=.of [J7] [JS] (fun a=>Nv N a)
def PT (N:Nat):Jw 227 (Qg N):=J3 (Jz [(295,sZ N)] []) ⟨[],[]⟩ Tryz.f227 N (Jv ⟨xQ N,trivial⟩)
def Agg:List (Nat×Nrm):=[(7,⟨[],[],[],[],[]⟩),(25,⟨[0,1,11],[],[],[],[]⟩),(30,⟨[0,1,5],[],[],[],[]⟩)]
def AhD:Lk:=⟨[(25,⟨[(0,.i),(1,.i),(11,.c xb)],[]⟩)],[(30,⟨[(0,.i),(1,.i),(5,.c x64)],[]⟩,[(1,⟨[],[]⟩)])]⟩
def mW:Sig:=.of [J4,J7] [JS] (fun a=>aH N a.1 a.2)
def AcF (N:Nat):Jw 293 (mW N):=J3 (Jz [(378,Agi N),(379,Y1 N),(380,kW N)] Agg [] [] [] [22,27,32,33,34,37,43,44,50,51]) AhD Tryz.f293 N (Jv ⟨AlB N,YP N,sQ N,trivial⟩)
def Anc:List (Nat×Nrm):=[(3,⟨[0,2,4,5],[],[],[],[]⟩),(11,⟨[0,2,4,5,6],[],[],[],[]⟩),(22,⟨[0,2,4,5],[],[],[],[]⟩),(38,⟨[0,2,4,5,6],[],[],[],[]⟩)]
def AoP:Lk:=⟨[],[(22,⟨[(0,.i),(2,.c AL),(4,.i),(5,.c x64)],[(33280,.box BJ)]⟩,[(0,⟨[(0,.i),(2,.c AL),(4,.i),(5,.c x64)],[(33280,.box BJ)]⟩)]),(38,⟨[(0,.i),(2,.c AL),(4,.c x64),(5,.i),(6,.c x64)],[(33280,.box BJ)]⟩,[(2,⟨[(0,.i),(2,.c AL),(4,.c x64),(5,.i),(6,.c x64)],[(33280,.box BJ)]⟩)])]⟩
def Ad1:Sig:=.of [J4] [Sq7,J4] (fun a=>Aiw N a)
def Aj4 (N:Nat):Jw 137 (Ad1 N):=J3 (Jz [(231,Abn N),(232,Agh N)] Anc) AoP Tryz.f137 N (Jv ⟨AhE N,Al9 N,trivial⟩)
def Arn:List (Nat×Nrm):=[(3,⟨[5],[],[],[],[]⟩),(10,⟨[1,5],[],[],[],[]⟩)]
def As1:Lk:=⟨[],[(10,⟨[(1,.i),(5,.c xs)],[]⟩,[(0,⟨[(5,.c xs)],[]⟩)])]⟩
def Aiz:Sig:=.of [J4,J4] [J7] (fun a=>Ux N a.1 a.2)
def Ank (N:Nat):Jw 138 (Aiz N):=J3 (Jz [(94,zQ N)] Arn) As1 Tryz.f138 N (Jv ⟨Abk N,trivial⟩)
def Arp:List (Nat×Nrm):=[(3,⟨[],[],[],[],[]⟩),(11,⟨[10,11,12],[],[],[],[]⟩),(18,⟨[10,11,12],[],[],[],[]⟩),(38,⟨[4,5,10,11,12],[],[],[],[]⟩)]
def As2:Lk:=⟨[],[(18,⟨[(10,.i),(11,.i),(12,.c x64)],[]⟩,[(0,⟨[],[]⟩)]),(38,⟨[(4,.i),(5,.c x64),(10,.i),(11,.i),(12,.i)],[]⟩,[(2,⟨[(10,.i),(11,.i),(12,.i)],[]⟩)])]⟩
def Yk:Sig:=.of [J7] [JS] (fun a=>PE N a)
def X7 (N:Nat):Jw 431 (Yk N):=J3 (Jz [(433,lF N),(379,Y1 N)] Arp [] [] [] [19,23,24,28,29,36]) As2 Tryz.f431 N (Jv ⟨tK N,YP N,trivial⟩)
open Go.Proofs
def Af2:List (Nat×Nrm):=[(3,⟨[3,4,5],[],[],[(41984,1008192),(1004096,1008192)],[1008192]⟩),(11,⟨[3,4],[],[],[],[]⟩),(19,⟨[3],[],[],[],[]⟩),(27,⟨[7],[],[],[],[]⟩),(29,⟨[3,4,5],[([4],5,Ar,1000000)],[],[(41216,1000000)],[]⟩),(34,⟨[3,4,5],[],[],[(41984,1004096),(43776,1004096)],[]⟩),(46,⟨[3,4,5,6],[],[],[(47616,1008192)],[]⟩),(58,⟨[3,4],[],[(none,4,Ar)],[],[]⟩),(78,⟨[7,68,69],[([7],5,Ar,1028672)],[],[(54528,1028672)],[]⟩)]
def Ah5:Lk:=⟨[(29,⟨[(3,.c (.c (.Kr 33536 0 0))),(4,.c (xo 1000000)),(5,.c x64)],[(0,.box BA),(33536,.arr 392 false Az),(1000000,.arr 5 false Ar)]⟩)],[(34,⟨[(3,.c (.c (.Kr 33536 0 0))),(4,.c (xo 1004096)),(5,.i)],[(0,.box BA),(33536,.arr 392 false Az),(1004096,.arr 5 false Ar)]⟩,[(0,⟨[(3,.c (.c (.Kr 33536 0 0))),(4,.c (xo 1008192)),(5,.i)],[(0,.box BA),(33536,.arr 392 false Az),(1008192,.arr 5 true Ar)]⟩)]),(46,⟨[(3,.c (.c (.Kr 33536 0 0))),(4,.c (xo 1008192)),(5,.i),(6,.c x64)],[(0,.box BA),(33536,.arr 392 false Az),(1008192,.arr 5 true Ar)]⟩,[(2,⟨[(3,.c (.c (.Kr 33536 0 0))),(4,.c (xo 1008192))],[(0,.box BA),(33536,.arr 392 false Az),(1008192,.arr 5 true Ar)]⟩)]),(58,⟨[(3,.c (.c (.Kr 33536 0 0))),(4,.c Bq)],[(0,.box BA),(33536,.arr 392 false Az)]⟩,[(4,⟨[(3,.c (.c (.Kr 33536 0 0)))],[(0,.box BA),(33536,.arr 392 false Az)]⟩)]),(78,⟨[(7,.c (xo 1028672)),(68,.i),(69,.c x64)],[(0,.box BA),(1028672,.arr 5 false Ar)]⟩,[(6,⟨[(7,.c (xo 1028672))],[(0,.box BA),(1028672,.arr 5 false Ar)]⟩)])]⟩
def mF:Sig:=.of [AxB] [J7] (fun a=>VS N a)
def Ach (N:Nat):Jw 389 (mF N):=J3 (Jz [(434,dP N),(435,WI N)] Af2) Ah5 Tryz.f389 N (Jv ⟨mG N,Zf N,trivial⟩)
def zI:Sig:=.of [J4] [J7] (fun a=>Tn N a)
def AaW (N:Nat):Jw 22 (zI N):=J3 (Jz [(80,AlF N),(79,Aiy N)] []) ⟨[],[]⟩ Tryz.f22 N (Jv ⟨Apc N,Ani N,trivial⟩)
def aZ:Sig:=.of [AiA] [J4] (fun a=>Xa N a)
def vO (N:Nat):Jw 154 (aZ N):=J3 (Jz [(92,Ri N),(152,QW N)] []) ⟨[],[]⟩ Tryz.f154 N (Jv ⟨SH N,SC N,trivial⟩)
def Ym:Sig:=.of [J7] [J7] (fun a=>Rn N a)
def X8 (N:Nat):Jw 142 (Ym N):=J3 (Jz [(236,mV N),(43,LM N)] []) ⟨[],[]⟩ Tryz.f142 N (Jv ⟨AcE N,Lc N,trivial⟩)
def tV:List (Nat×Nrm):=[(3,⟨[],[],[],[],[]⟩),(10,⟨[0,6,7,8],[],[],[],[]⟩),(11,⟨[0,6,7,8],[],[],[],[]⟩),(46,⟨[0,3,4,5,6,7,8],[],[],[],[]⟩)]
def vI:Lk:=⟨[],[(10,⟨[(0,.i),(6,.i),(7,.i),(8,.c x64)],[]⟩,[(0,⟨[],[]⟩)]),(46,⟨[(0,.i),(3,.i),(4,.c AU),(5,.c x64),(6,.i),(7,.i),(8,.i)],[(33792,.box [xs,x64,xs])]⟩,[(2,⟨[(0,.i),(6,.i),(7,.i),(8,.i)],[]⟩)])]⟩
def XI:Sig:=.of [.cell false (.sl 143 Tq0)] [J4] (fun a=>QH N a)
def lG (N:Nat):Jw 220 (XI N):=J3 (Jz [(227,Qg N),(293,mW N)] tV) vI Tryz.f220 N (Jv ⟨PT N,AcF N,trivial⟩)
def jF:Sig:=.of [J4] [J7,J4] (fun a=>Si N a)
def Abl (N:Nat):Jw 64 (jF N):=J3 (Jz [(137,Ad1 N),(138,Aiz N),(103,aI N)] []) ⟨[],[]⟩ Tryz.f64 N (Jv ⟨Aj4 N,Ank N,aJ N,trivial⟩)
def eX:Sig:=.of [J4,J4] [J7] (fun a=>LC N a.1 a.2)
def nI (N:Nat):Jw 68 (eX N):=J3 (Jz [(141,jG N),(43,LM N)] []) ⟨[],[]⟩ Tryz.f68 N (Jv ⟨Abm N,Lc N,trivial⟩)
open Go.Proofs
def kS:Sig:=.of [J4] [J7] (fun a=>V4 N a)
def rP (N:Nat):Jw 237 (kS N):=J3 (Jz [] []) ⟨[],[]⟩ Tryz.f237 N (Jv trivial)
def AhU:Sig:=.of [J4] [JS] (fun a=>YV N a)
def Ami (N:Nat):Jw 164 (AhU N):=J3 (Jz [] []) ⟨[],[]⟩ Tryz.f164 N (Jv trivial)
def AaD:Sig:=.of [J4] [JS] (fun a=>Oj N a)
def Ah1 (N:Nat):Jw 247 (AaD N):=J3 (Jz [] []) ⟨[],[]⟩ Tryz.f247 N (Jv trivial)
def Xq:Sig:=.of [] [.cell false (.sl 283 Tq6)] (fun _=>Pn N)
def XQ (N:Nat):Jw 252 (Xq N):=J3 (Jz [] []) ⟨[],[]⟩ Tryz.f252 N (Jv trivial)
def AiM:Sig:=.of [MP] [JS] (fun a=>dC N a)
def AdU (N:Nat):Jw 310 (AiM N):=J3 (Jz [] []) ⟨[],[]⟩ Tryz.f310 N (Jv trivial)
def AiN:Sig:=.of [MP] [JS] (fun a=>dD N a)
def AdV (N:Nat):Jw 313 (AiN N):=J3 (Jz [] []) ⟨[],[]⟩ Tryz.f313 N (Jv trivial)
def AiO:Sig:=.of [MP] [JS] (fun a=>dE N a)
def AdW (N:Nat):Jw 316 (AiO N):=J3 (Jz [] []) ⟨[],[]⟩ Tryz.f316 N (Jv trivial)
def AiP:Sig:=.of [MP] [JS] (fun a=>dF N a)
def AdX (N:Nat):Jw 319 (AiP N):=J3 (Jz [] []) ⟨[],[]⟩ Tryz.f319 N (Jv trivial)
open Go.Proofs
def Anj:List (Nat×Nrm):=[(3,⟨[],[],[],[],[]⟩),(18,⟨[1,5],[],[],[],[]⟩)]
def AoU:Lk:=⟨[],[(18,⟨[(1,.i),(5,.c xs)],[]⟩,[(0,⟨[],[]⟩)])]⟩
def eQ (N n:Nat):Sig:=.of [NL,.cell false (.int .i64)] [.cell false (.int .i64)] (fun a=>TQ N n a.1 a.2)
def mX (N:Nat): ∀ n,Spec Tryz.prog 297 (eQ N n)
 | 0=>Ag9 (C:=ctx Tryz.prog [] []) (fn:=Tryz.f297) (Jv (gs:=[]) trivial) (by kernel_rfl) (by kernel_rfl)
 | n+1=>Qq (C:=ctx Tryz.prog ((297,eQ N n)::[(102,sW N)]) Anj) (L:=AoU) (fn:=Tryz.f297) (N:=N) (Jv ⟨mX N n,⟨xO N,trivial⟩⟩)
def Ad4:Sig:=eQ N N
def Aj7 (N:Nat):Spec Tryz.prog 297 (Ad4 N):=mX N N
def Ail:Sig:=.of [Zv] [J4] (fun a=>iQ N a)
def AmN (N:Nat):Jw 36 (Ail N):=J3 (Jz [(35,Lt N)] []) ⟨[],[]⟩ Tryz.f36 N (Jv ⟨KZ N,trivial⟩)
def rQ:Sig:=.of [Zv] [Sq5] (fun a=>X4 N a)
def Aek (N:Nat):Jw 143 (rQ N):=J3 (Jz [(35,Lt N)] []) ⟨[],[]⟩ Tryz.f143 N (Jv ⟨KZ N,trivial⟩)
def AqC:List (Nat×Nrm):=[(3,⟨[5],[([5],9,Aq,1016384)],[],[(1000000,1016384)],[]⟩),(11,⟨[0,1,5,6,7,8],[([5],9,Aq,1012288)],[],[(1008192,1012288)],[]⟩),(14,⟨[0,1,5,6],[([5],9,Aq,1000000)],[],[(44288,1000000),(1012288,1000000)],[]⟩),(33,⟨[0,1,5,6,7],[([5],9,Aq,1004096)],[],[(1000000,1004096)],[]⟩),(42,⟨[0,1,5,6,7,8,27,28,29],[([5,27],9,Aq,1008192)],[],[(1004096,1008192)],[]⟩)]
def Asp:Lk:=⟨[(33,⟨[(0,.c AO),(1,.i),(5,.c (xo 1004096)),(6,.i),(7,.c xs)],[(0,.box BG),(1004096,.arr 9 false Aq)]⟩)],[(14,⟨[(0,.c AO),(1,.i),(5,.c (xo 1000000)),(6,.c x64)],[(0,.box BG),(1000000,.arr 9 false Aq)]⟩,[(0,⟨[(5,.c (xo 1016384))],[(0,.box BG),(1016384,.arr 9 false Aq)]⟩)]),(42,⟨[(0,.c AO),(1,.i),(5,.c (xo 1008192)),(6,.i),(7,.i),(8,.c xb),(27,.c (xo 1008192)),(28,.i),(29,.c x64)],[(0,.box BG),(1008192,.arr 9 false Aq)]⟩,[(2,⟨[(0,.c AO),(1,.i),(5,.c (xo 1012288)),(6,.i),(7,.i),(8,.c xb)],[(0,.box BG),(1012288,.arr 9 false Aq)]⟩)])]⟩
def Aim:Sig:=.of [Zv,JS] [Sq6] (fun a=>iR N a.1 a.2)
def AmO (N:Nat):Jw 145 (Aim N):=J3 (Jz [(35,Lt N),(237,kS N)] AqC) Asp Tryz.f145 N (Jv ⟨KZ N,rP N,trivial⟩)
def Ajq:List (Nat×Nrm):=[(3,⟨[3],[([3],267,(.str Aq),1012288)],[],[(1000000,1012288)],[]⟩),(11,⟨[0,3,4,5,6],[([3],267,(.str Aq),1008192)],[],[(1004096,1008192)],[]⟩),(14,⟨[0,3,4],[([3],267,(.str Aq),1000000)],[],[(43264,1000000),(1008192,1000000)],[]⟩),(34,⟨[0,3,4,5,6,23,24,25],[([3,23],267,(.str Aq),1004096)],[],[(1000000,1004096)],[]⟩)]
def Alg:Lk:=⟨[],[(14,⟨[(0,.c AO),(3,.c (xo 1000000)),(4,.c x64)],[(0,.box BG),(1000000,.arr 267 false (.str Aq))]⟩,[(0,⟨[(3,.c (xo 1012288))],[(0,.box BG),(1012288,.arr 267 false (.str Aq))]⟩)]),(34,⟨[(0,.c AO),(3,.c (xo 1004096)),(4,.i),(5,.c AX),(6,.c xb),(23,.c (xo 1004096)),(24,.i),(25,.c x64)],[(0,.box BG),(34048,.box [xs,xs]),(1004096,.arr 267 false (.str Aq))]⟩,[(2,⟨[(0,.c AO),(3,.c (xo 1008192)),(4,.i),(5,.c AX),(6,.c xb)],[(0,.box BG),(34048,.box [xs,xs]),(1008192,.arr 267 false (.str Aq))]⟩)])]⟩
def wX:Sig:=.of [Zv] [ApF] (fun a=>Yy N a)
def AfG (N:Nat):Jw 146 (wX N):=J3 (Jz [(35,Lt N),(237,kS N)] Ajq) Alg Tryz.f146 N (Jv ⟨KZ N,rP N,trivial⟩)
def Akj:List (Nat×Nrm):=[(3,⟨[2],[],[],[],[]⟩),(10,⟨[0,2,6,7,8],[],[],[],[]⟩)]
def Amk:Lk:=⟨[],[(10,⟨[(0,.i),(2,.c AL),(6,.i),(7,.i),(8,.c x64)],[(33280,.box BL)]⟩,[(0,⟨[(2,.c AL)],[(33280,.box BL)]⟩)])]⟩
def dB:Sig:=.of [J7] [A2Y,JS] (fun a=>Pj N a)
def lV (N:Nat):Jw 308 (dB N):=J3 (Jz [(252,Xq N)] Akj) Amk Tryz.f308 N (Jv ⟨XQ N,trivial⟩)
open Go.Proofs
def Anp:List (Nat×Nrm):=[(3,⟨[0,5],[],[],[],[]⟩),(11,⟨[0,5],[],[],[],[]⟩),(18,⟨[0,5],[],[],[],[]⟩),(38,⟨[0,5,6],[],[],[],[]⟩)]
def Apa:Lk:=⟨[],[(18,⟨[(0,.i),(5,.c x64)],[]⟩,[(0,⟨[(0,.i),(5,.c x64)],[]⟩)]),(38,⟨[(0,.i),(5,.i),(6,.c x64)],[]⟩,[(2,⟨[(0,.i),(5,.i)],[]⟩)])]⟩
def Ad7:Sig:=.of [J7] [J7,J7,JS] (fun a=>Ai0 N a)
def AjB (N:Nat):Jw 432 (Ad7 N):=J3 (Jz [(431,Yk N),(379,Y1 N),(380,kW N)] Anp [] [] [] [24,27,28,33,34,41,42,46,47,53,64,70,71,76,82,83]) Apa Tryz.f432 N (Jv ⟨X7 N,YP N,sQ N,trivial⟩)
def Agk:Sig:=.of [J7] [JS] (fun a=>AcI N a)
def AlC (N:Nat):Jw 383 (Agk N):=J3 (Jz [(431,Yk N)] []) ⟨[],[]⟩ Tryz.f383 N (Jv ⟨X7 N,trivial⟩)
def xX:Sig:=.of [J7] [JS] (fun a=>lD N a)
def Ago (N:Nat):Jw 384 (xX N):=J3 (Jz [(431,Yk N),(433,lF N)] [] [] [] [] [5,9,13,14,18,19,23,24,29,30]) ⟨[],[]⟩ Tryz.f384 N (Jv ⟨X7 N,tK N,trivial⟩)
def kX:Sig:=.of [J7] [J4] (fun a=>V6 N a)
def sS (N:Nat):Jw 230 (kX N):=J3 (Jz [(40,Aix N),(297,Ad4 N)] []) ⟨[],[]⟩ Tryz.f230 N (Jv ⟨Anf N,Aj7 N,trivial⟩)
def xZ:Sig:=.of [J4,JS] [J7] (fun a=>lI N a.1 a.2)
def Agw (N:Nat):Jw 188 (xZ N):=J3 (Jz [(263,WU N),(43,LM N)] []) ⟨[],[]⟩ Tryz.f188 N (Jv ⟨Zm N,Lc N,trivial⟩)
def lJ:Sig:=.of [J4,J4] [J7] (fun a=>Qo N a.1 a.2)
def uC (N:Nat):Jw 189 (lJ N):=J3 (Jz [(264,sV N),(43,LM N)] []) ⟨[],[]⟩ Tryz.f189 N (Jv ⟨Aeo N,Lc N,trivial⟩)
def AqB:List (Nat×Nrm):=[(3,⟨[2,3],[],[],[(33637,1012288),(1000000,1012288)],[]⟩),(11,⟨[0,2,3,4,5],[([5],143,Tq0,1008192)],[],[(33637,1008208),(1004096,1008192),(1004112,1008208)],[]⟩),(14,⟨[0,2,3,4],[],[],[(33637,1000000),(44288,1000000)],[]⟩),(30,⟨[0,2,3,4,5,6],[([5],143,Tq0,1004096)],[],[(33637,1004112),(43008,1004096),(1000000,1004112)],[]⟩)]
def Aso:Lk:=⟨[],[(14,⟨[(0,.c AO),(2,.c AL),(3,.c AV),(4,.c x64)],[(0,.box BG),(33280,.box BP),(33281,.JZ 144 false Aw),(33536,.box [(xo 1000000)]),(1000000,.arr 144 false Aw)]⟩,[(0,⟨[(2,.c AL),(3,.c AV)],[(0,.box BG),(33280,.box BP),(33281,.JZ 144 false Aw),(33536,.box [(xo 1012288)]),(1012288,.arr 144 false Aw)]⟩)]),(30,⟨[(0,.c AO),(2,.c AL),(3,.c AV),(4,.i),(5,.c (xo 1004096)),(6,.c x64)],[(0,.box BG),(33280,.box BP),(33281,.JZ 144 false Aw),(33536,.box [(xo 1004112)]),(1004096,.arr 143 false Tq0),(1004112,.arr 144 false Aw)]⟩,[(2,⟨[(0,.c AO),(2,.c AL),(3,.c AV),(4,.i),(5,.c (xo 1008192))],[(0,.box BG),(33280,.box BP),(33281,.JZ 144 false Aw),(33536,.box [(xo 1008208)]),(1008192,.arr 143 false Tq0),(1008208,.arr 144 false Aw)]⟩)])]⟩
def fP:Sig:=.of [Zv] [Sq1] (fun a=>Zh N a)
def dU (N:Nat):Jw 70 (fP N):=J3 (Jz [(35,Lt N),(143,rQ N)] AqB) Aso Tryz.f70 N (Jv ⟨KZ N,Aek N,trivial⟩)
open Go.Proofs
def Asa:List (Nat×Nrm):=[(3,⟨[3],[],[],[],[]⟩),(14,⟨[3,7,8,9],[],[],[],[]⟩)]
def Au3:Lk:=⟨[],[(14,⟨[(3,.c Bc),(7,.i),(8,.i),(9,.c x64)],[(34304,.box BA)]⟩,[(0,⟨[(3,.c Bc)],[(34304,.box BA)]⟩)])]⟩
def AkI:Sig:=.of [Sq6] [J7] (fun a=>Acj N a)
def Ao4 (N:Nat):Jw 301 (AkI N):=J3 (Jz [(387,Af1 N),(388,bP N),(389,mF N)] Asa) Au3 Tryz.f301 N (Jv ⟨AkH N,zA N,Ach N,trivial⟩)
def XZ:Sig:=.of [] [J7] (fun _=>Tv N)
def aK (N:Nat):Jw 69 (XZ N):=J3 (Jz [(142,Ym N),(43,LM N)] []) ⟨[],[]⟩ Tryz.f69 N (Jv ⟨X8 N,Lc N,trivial⟩)
def Agl:List (Nat×Nrm):=[(3,⟨[],[],[],[],[]⟩),(18,⟨[11,12,13],[],[],[],[]⟩)]
def AhF:Lk:=⟨[],[(18,⟨[(11,.i),(12,.i),(13,.c x64)],[]⟩,[(0,⟨[],[]⟩)])]⟩
def QT:Sig:=.of [Sq1] [J4] (fun a=>NZ N a)
def QZ (N:Nat):Jw 132 (QT N):=J3 (Jz [(220,XI N)] Agl) AhF Tryz.f132 N (Jv ⟨lG N,trivial⟩)
def Aet:List (Nat×Nrm):=[(3,⟨[3],[([3],9,Aq,1004096)],[],[(1000000,1004096)],[]⟩),(14,⟨[3,6,7,8],[([3],9,Aq,1000000)],[],[(39168,1000000)],[]⟩)]
def Agp:Lk:=⟨[],[(14,⟨[(3,.c (xo 1000000)),(6,.i),(7,.i),(8,.c x64)],[(1000000,.arr 9 false Aq)]⟩,[(0,⟨[(3,.c (xo 1004096))],[(1004096,.arr 9 false Aq)]⟩)])]⟩
def jH:Sig:=.of [.cell false (.sl 143 Tq0)] [Sq6] (fun a=>Ve N a)
def Abs (N:Nat):Jw 136 (jH N):=J3 (Jz [(142,Ym N),(43,LM N)] Aet) Agp Tryz.f136 N (Jv ⟨X8 N,Lc N,trivial⟩)
def tJ:Sig:=.of [J7] [JS] (fun a=>oG N a)
def xU (N:Nat):Jw 382 (tJ N):=J3 (Jz [(432,Ad7 N)] []) ⟨[],[]⟩ Tryz.f382 N (Jv ⟨AjB N,trivial⟩)
def Agx:List (Nat×Nrm):=[(3,⟨[],[],[],[],[]⟩),(10,⟨[0,8,9,10],[],[],[],[]⟩)]
def AhI:Lk:=⟨[],[(10,⟨[(0,.i),(8,.i),(9,.i),(10,.c x64)],[]⟩,[(0,⟨[],[]⟩)])]⟩
def nC:Sig:=.of [.cell false (.sl 176 Tq4)] [J4] (fun a=>VZ N a)
def AcS (N:Nat):Jw 351 (nC N):=J3 (Jz [(227,Qg N),(229,tZ N),(230,kX N)] Agx) AhI Tryz.f351 N (Jv ⟨PT N,xY N,sS N,trivial⟩)
def dS:Sig:=.of [Zv] [Sq2] (fun a=>Uj N a)
def mM (N:Nat):Jw 37 (dS N):=J3 (Jz [(35,Lt N),(70,fP N)] []) ⟨[],[]⟩ Tryz.f37 N (Jv ⟨KZ N,dU N,trivial⟩)
open Go.Proofs
def Amq:List (Nat×Nrm):=[(33,⟨[1,6],[],[],[],[]⟩),(69,⟨[1,6,7],[],[],[],[]⟩)]
def Aow:Lk:=⟨[(33,⟨[(1,.i),(6,.c x64)],[]⟩),(69,⟨[(1,.i),(6,.i),(7,.c x64)],[]⟩)],[]⟩
def Ado:Sig:=.of [J4,J7] [J4,J4] (fun a=>fH N a.1 a.2)
def AiX (N:Nat):Jw 195 (Ado N):=J3 (Jz [(268,kG N),(270,Afg N),(269,AaG N)] Amq) Aow Tryz.f195 N (Jv ⟨qO N,Akt N,Ah3 N,trivial⟩)
def Oa (N:Nat):Alt:=.of [TD] [TD,.cell false (.int .i64)] [.cell false .ptr,.cell false (.int .i64)] (fun a=>MJ N a)
def QC (N:Nat):Spec Tryz.prog 197 (Oa N).1/\Spec Tryz.prog 197 (Oa N).2.1:=Uy (C:=ctx Tryz.prog [(45,MK N)] [] [(104,Ug N)]) (L:=⟨[],[]⟩) (fn:=Tryz.f197) (N:=N) (Jv ⟨LV N,trivial⟩ ⟨YE N,trivial⟩) (by kernel_rfl) (by kernel_rfl) (fun a=>by kernel_rfl)
def RU:Sig:=.of [Sq6] [J7] (fun a=>Ny N a)
def QD (N:Nat):Jw 240 (RU N):=J3 (Jz [(301,AkI N)] []) ⟨[],[]⟩ Tryz.f240 N (Jv ⟨Ao4 N,trivial⟩)
def QK:Sig:=.of [.box [(false,.bool)],.box [(false,.str)],.box [(false,.str)]] [J7] (fun a=>OW N a.1 a.2.1 a.2.2)
def AiG (N:Nat):Jw 75 (QK N):=J3 (Jz [(54,Sv N),(76,eH N),(55,Lu N),(58,Ld N),(52,MB N)] []) ⟨[],[]⟩ Tryz.f75 N (Jv ⟨TM N,mQ N,La N,KU N,LH N,trivial⟩)
def Aer:List (Nat×Nrm):=[(3,⟨[5],[],[],[],[]⟩),(26,⟨[5,14,15,16],[],[],[],[]⟩)]
def Agn:Lk:=⟨[],[(26,⟨[(5,.c xs),(14,.i),(15,.i),(16,.c x64)],[]⟩,[(0,⟨[(5,.c xs)],[]⟩)])]⟩
def WX:Sig:=.of [Sq1] [J7,J4] (fun a=>Qi N a)
def Zn (N:Nat):Jw 63 (WX N):=J3 (Jz [(132,QT N),(136,jH N),(135,Ad2 N),(43,LM N)] Aer) Agn Tryz.f63 N (Jv ⟨QZ N,Abs N,Aj5 N,Lc N,trivial⟩)
def tH:Sig:=.of [J7] [JS] (fun a=>eU N a)
def Aes (N:Nat):Jw 381 (tH N):=J3 (Jz [(382,tJ N),(431,Yk N)] [] [] [] [] [5,8,9,13,17,18,22,23,27,28]) ⟨[],[]⟩ Tryz.f381 N (Jv ⟨xU N,X7 N,trivial⟩)
end
end Go.Proofs.YtfgdgdnlglejbaaGreatDoor.Vm
