import Derived.Test.YtdihmdelaolelaaGreatDoorA10
import Derived.Test.YtdihmdelaolelaaGreatDoorA11
set_option linter.all false
namespace Go.Proofs.YtdihmdelaolelaaGreatDoor.Vm
noncomputable section
variable (N:Nat)
open Go.Proofs Go.Proofs.Tryz
def AcP:=J8 85 [Sq7] [Jy] (YD N) [] f85 N
def X7:Sig:=.of [.box [(false,.bool)]] [JM] (Md N)
def Vj:bH 76 (X7 N):=mM (mJ (ksp []) []) A08 f76 N (NC (Qh _))
def fU:=J8 260 [JM] [Jy] (Vz N) [] f260 N
def AeF:A07:=[A05 3 [0,4],A05 11 [5],A05 18 [0,4],A05 38 [0,5,34,35]]
def Ag6:Lk:=⟨[],[(18,⟨[(0,.i),(4,.c x64)],[]⟩,[(0,⟨[(0,.i),(4,.c x64)],[]⟩)]),(38,⟨[(0,.i),(5,.c (xo 38912)),(34,.i),(35,.c x64)],[(38912,.arr 5 false Ar)]⟩,[(2,⟨[(5,.c (xo 38912))],[(38912,.arr 5 false Ar)]⟩)])]⟩
def nD:=JJ 279 [Jw] [Jy,Jw] (RN N) [] AeF Ag6 f279 N
def AjM:=J8 337 [Jw] [Jw] (oD N) [] f337 N
def Am1:=J8 348 [] [AuR] (fun _=>AfM N) [] f348 N
def rE:=J8 386 [] [AuS] (fun _=>Y9 N) [] f386 N
def Ao9:=J8 406 [.cell false (.int .u32),.cell false (.int .u64)] [.cell false (.int .u32)] (A00 (PU N)) [] f406 N
open Go.Proofs Go.Proofs.Tryz
def Lr:=J8 30 [.box [(false,.bool)],Jy,Jw] [Jy] (A01 (Ko N)) [] f30 N
def Ap2:A07:=[A05 3 [0,1,6],A05 22 [0,1,6,21,22,23],(77,⟨[1,9],[],[],[(45568,AzM),(47616,AzM),(49664,AzM),(52480,AzM)],[]⟩)]
def As6:Lk:=⟨[(77,⟨[(1,.i),(9,.c (xo AzM))],[(AzM,.arr 5 false Ar)]⟩)],[(22,⟨[(0,.i),(1,.i),(6,.c x64),(21,.i),(22,.i),(23,.c x64)],[]⟩,[(0,⟨[(0,.i),(1,.i),(6,.c x64)],[]⟩)])]⟩
def OM:=JJ 77 [Jw,Sq1] [Jy,Jw] (A00 (Kw N)) [⟨156,ZO N,gK N⟩] Ap2 As6 f77 N
def Abt:A07:=[A05 3 [0,3],(11,⟨[5],[([5],5,Ar,AzN)],[],[(AzM,AzN)],[]⟩),A05 14 [0,3,4],(34,⟨[0,3,5,18,19],[([5],5,Ar,AzM)],[],[(41216,AzM)],[]⟩)]
def AcV:Lk:=⟨[],[(14,⟨[(0,.i),(3,.c x64),(4,.c x64)],[]⟩,[(0,⟨[(0,.i),(3,.c x64)],[]⟩)]),(34,⟨[(0,.i),(3,.i),(5,.c (xo AzM)),(18,.i),(19,.c x64)],[(AzM,.arr 5 false Ar)]⟩,[(2,⟨[(5,.c (xo AzN))],[(AzN,.arr 5 false Ar)]⟩)])]⟩
def fV:=JJ 78 [Jw] [Jy] (NK N) [] Abt AcV f78 N
def ArQ:A07:=[A05 3 [0,1,5],A05 10 [0,1,5],(11,⟨[0,1],[],[],[(0,AzN),(AzM,AzN)],[]⟩),(22,⟨[0,1,6],[],[],[(0,AzM),(40704,AzM)],[]⟩)]
def Aum:Lk:=⟨[],[(10,⟨[(0,.c (xo 0)),(1,.i),(5,.c x64)],[(0,.arr 5 true Ar)]⟩,[(0,⟨[(0,.c (xo 0)),(1,.i),(5,.c x64)],[(0,.arr 5 true Ar)]⟩)]),(22,⟨[(0,.c (xo AzM)),(1,.i),(6,.c x64)],[(AzM,.arr 5 true Ar)]⟩,[(2,⟨[(0,.c (xo AzN)),(1,.i)],[(AzN,.arr 5 true Ar)]⟩)])]⟩
def Aun:=JJ 158 [Ayi,Jw] [Ayi] (A00 (rU N)) [] ArQ Aum f158 N
def Afz:=J8 257 [Jw] [Jw] (Qv N) [] f257 N
def Aox:=J8 258 [Jw] [JM] (bU N) [] f258 N
def Aoy:A07:=[(3,⟨[0,1,7],[],[],[(0,AzL),(AzK,AzL)],[]⟩),A05 11 [0],(14,⟨[0,1,2,7,8],[],[],[(0,AzK),(37632,AzK)],[]⟩),A05 30 [0,1,7,9]]
def AqP:Lk:=⟨[],[(14,⟨[(0,.c (xo AzK)),(1,.i),(2,.i),(7,.i),(8,.c x64)],[(AzK,.arr 5 false Ar)]⟩,[(0,⟨[(0,.c (xo AzL)),(1,.i),(7,.i)],[(AzL,.arr 5 false Ar)]⟩)]),(30,⟨[(0,.c (xo AzL)),(1,.c x64),(7,.i),(9,.c x64)],[(AzL,.arr 5 false Ar)]⟩,[(2,⟨[(0,.c (xo AzL))],[(AzL,.arr 5 false Ar)]⟩)])]⟩
def AqQ:=JJ 83 [Ayj,Jw,Jw] [Ayj] (A01 (QT N)) [] Aoy AqP f83 N
def Abu:=J8 162 [Jy,Jw] [JM] (A00 (YQ N)) [] f162 N
open Go.Proofs Go.Proofs.Tryz
def AjN:=J8 407 [] [Az9] (fun _=>Ad1 N) [] f407 N
def Vp:=J8 153 [AgV] [JM] (NF N) [] f153 N
def Aik:A07:=[A05 3 [0,5,6],A05 11 [0,5,6],A05 18 [0,1,5,6,7],A05 19 [0,13,14,15,16,17,18,19,20],A05 34 [0,5,6,8],A05 66 [0,5,6,13,14,15,16,17,18,19,20,21]]
def Ak3:Lk:=⟨[],[(18,⟨[(0,.i),(1,.i),(5,.c (xo A0f)),(6,.c (.c (.Kt AzV 0 0))),(7,.c x64)],[(AzV,.arr 231 false Aw),(A0f,.arr 162 false Aw)]⟩,[(0,⟨[(0,.i),(5,.c (xo A0f)),(6,.c (.c (.Kt AzV 0 0)))],[(AzV,.arr 231 false Aw),(A0f,.arr 162 false Aw)]⟩)]),(34,⟨[(0,.i),(5,.c (xo A0f)),(6,.c (.c (.Kt AzV 0 0))),(8,.c x64)],[(AzV,.arr 231 false Aw),(A0f,.arr 162 false Aw)]⟩,[(2,⟨[(0,.i),(5,.c (xo A0f)),(6,.c (.c (.Kt AzV 0 0)))],[(AzV,.arr 231 false Aw),(A0f,.arr 162 false Aw)]⟩)]),(66,⟨[(0,.i),(5,.c (xo A0f)),(6,.c (.c (.Kt AzV 0 0))),(13,.c Ba),(14,.c Ba),(15,.c Ba),(16,.c Ba),(17,.c Ba),(18,.c Ba),(19,.c Ba),(20,.c Ba),(21,.c x64)],[(AzV,.arr 231 false Aw),(A0f,.arr 162 false Aw)]⟩,[(4,⟨[(0,.i),(13,.c Ba),(14,.c Ba),(15,.c Ba),(16,.c Ba),(17,.c Ba),(18,.c Ba),(19,.c Ba),(20,.c Ba)],[]⟩)])]⟩
def Ak4:=JJ 123 [Aym,Jy] [Aym] (A00 (Xj N)) [] Aik Ak3 f123 N
def Asf:=J8 58 [Jw] [Jy] (wU N) [] f58 N
def Ld:=J8 23 [Sq5,Jw] [Jw] (A00 (JD N)) [] f23 N
def kR (N n:Nat):Sig:=.of [.cell false (.int .i64)] [.cell false .str] (fun a=>Ug N n a)
def nG (N:Nat): ∀ n,Spec Tryz.prog 124 (kR N n)
 | 0=>AbV (C:=ctx Tryz.prog [] []) (fn:=f124) (NC (gs:=[]) trivial)
 | n+1=>Vf (C:=ctx Tryz.prog ((124,kR N n)::(ksp [])) []) (L:=⟨[],[]⟩) (fn:=f124) (N:=N) (NC ⟨nG N n,(Qh _)⟩)
def oU:Sig:=kR N N
def sD (N:Nat):Spec Tryz.prog 124 (oU N):=nG N N
def AnB:=J8 126 [] [Sq2] (fun _=>wY N) [] f126 N
def yD:=J8 230 [Jw] [Jy] (Va N) [] f230 N
open Go.Proofs Go.Proofs.Tryz
def UD:=J8 73 [AdL] [JM] (Ot N) [] f73 N
def oN:=J8 233 [Jw] [Jy] (dE N) [] f233 N
def AoT:=J8 248 [Jw] [Jy] (AiZ N) [] f248 N
def AeC:=J8 320 [Jw] [Jy] (rW N) [] f320 N
def Anf:=J8 321 [Jw] [Jy] (rV N) [] f321 N
def AoY:A07:=[A05 3 [3],A05 14 [3,10,11,12]]
def ArX:Lk:=⟨[],[(14,⟨[(3,.c (xo 35072)),(10,.i),(11,.i),(12,.c x64)],[(35072,.arr 5 false Ar)]⟩,[(0,⟨[(3,.c (xo 35072))],[(35072,.arr 5 false Ar)]⟩)])]⟩
def Agz:=JJ 311 [Sq1] [Jy] (kN N) [] AoY ArX f311 N (cc:=[20])
def mZ:=J8 244 [Jy,Jw] [Jw] (A00 (RI N)) [] f244 N
def zG:=J8 155 [AzB] [Jy] (fQ N) [] f155 N
open Go.Proofs Go.Proofs.Tryz
def Akj:A07:=[(3,⟨[4,5],[([4],3,Au,AzL)],[],[(AzK,AzL)],[]⟩),(26,⟨[4,5,14,15,16],[([4],3,Au,AzK)],[],[(40448,AzK)],[]⟩)]
def Anb:Lk:=⟨[],[(26,⟨[(4,.c (xo AzK)),(5,.c x64),(14,.c (xo 36352)),(15,.i),(16,.c x64)],[(36352,.arr 5 false Ar),(AzK,.arr 3 false Au)]⟩,[(0,⟨[(4,.c (xo AzL)),(5,.c x64)],[(AzL,.arr 3 false Au)]⟩)])]⟩
def Abm:=JJ 245 [Jy] [Sq4,Jw] (Uw N) [] Akj Anb f245 N
def X6:=J8 137 [WS] [Sq7,Jw] (Wq N) [] f137 N
def AhR:A07:=[(3,⟨[3],[([3],3,Au,AzS)],[],[(AzK,AzS)],[]⟩),A05 7 [0,3,4],A05 11 [],(14,⟨[0,3,4],[([3],3,Au,AzK)],[],[(42240,AzK)],[]⟩),(30,⟨[0,3,4,5],[([3],3,Au,AzL)],[],[(AzK,AzL)],[]⟩)]
def Akh:Lk:=⟨[],[(14,⟨[(0,.i),(3,.c (xo AzK)),(4,.c x64)],[(AzK,.arr 3 false Au)]⟩,[(0,⟨[(3,.c (xo AzS))],[(AzS,.arr 3 false Au)]⟩)]),(30,⟨[(0,.i),(3,.c (xo AzL)),(4,.c x64),(5,.c x64)],[(AzL,.arr 3 false Au)]⟩,[(1,⟨[(0,.i),(3,.c (xo 42240)),(4,.c x64)],[(42240,.arr 3 false Au)]⟩),(2,⟨[],[]⟩)])]⟩
def Aki:=JJ 318 [Jy] [Sq4] (AdB N) [] AhR Akh f318 N
def WU:=J8 71 [WS] [Jw] (Vr N) [] f71 N
def Ag5:A07:=[A05 3 [4],A05 30 [0,4,42,43]]
def AhW:Lk:=⟨[],[(30,⟨[(0,.i),(4,.c x64),(42,.i),(43,.c x64)],[]⟩,[(0,⟨[(4,.c x64)],[]⟩)])]⟩
def rX:=JJ 236 [Jy] [Jw,Jw] (kQ N) [] Ag5 AhW f236 N (bb:=[8,12,16,20,21,25,29,30,31,32])
def AeY:A07:=[A05 3 [],A05 10 [0,3]]
def AgN:Lk:=⟨[],[(10,⟨[(0,.i),(3,.c x64)],[]⟩,[(0,⟨[],[]⟩)])]⟩
def AgO:=JJ 352 [.cell false (.sl 105 Tq5)] [JM] (yO N) [] AeY AgN f352 N
def Ahs:A07:=[A05 3 [3],A05 14 [3,7,8,9]]
def AjE:Lk:=⟨[],[(14,⟨[(3,.c x64),(7,.c (xo 34560)),(8,.i),(9,.c x64)],[(34560,.arr 5 false Ar)]⟩,[(0,⟨[(3,.c x64)],[]⟩)])]⟩
def yA:=JJ 354 [Jy] [Jw] (SY N) [] Ahs AjE f354 N
def Ahg:=J8 143 [] [Sq2] (fun _=>Aam N) [] f143 N
open Go.Proofs Go.Proofs.Tryz
def AcR:A07:=[A05 17 [0,2,3]]
def Aez:Lk:=⟨[(17,⟨[(0,.i),(2,.c AL),(3,.c xs)],[(AzO,.box BD),(A0e,.KP 84 false Az)]⟩)],[]⟩
def kD:=JJ 59 [Jw] [Sq0] (MQ N) [⟨124,oU N,sD N⟩] AcR Aez f59 N
def Ae4:=J8 125 [Sq5] [Al0] (WA N) [Ld N] f125 N
def AoO:=J8 61 [Sq5] [Jw] (dC N) [Ld N] f61 N
def AmN:A07:=[(3,⟨[5],[([5],9,Aq,AzS)],[],[(AzK,AzS)],[]⟩),(11,⟨[0,1,5,6,7,8],[([5],9,Aq,AzN)],[],[(AzM,AzN)],[]⟩),(14,⟨[0,1,5,6],[([5],9,Aq,AzK)],[],[(44288,AzK),(AzN,AzK)],[]⟩),(33,⟨[0,1,5,6,7],[([5],9,Aq,AzL)],[],[(AzK,AzL)],[]⟩),(42,⟨[0,1,5,6,7,8,27,28,29],[([5,27],9,Aq,AzM)],[],[(AzL,AzM)],[]⟩)]
def AoP:Lk:=⟨[(33,⟨[(0,.c AP),(1,.i),(5,.c (xo AzL)),(6,.i),(7,.c xs)],[(0,.box Bq),(AzL,.arr 9 false Aq)]⟩)],[(14,⟨[(0,.c AP),(1,.i),(5,.c (xo AzK)),(6,.c x64)],[(0,.box Bq),(AzK,.arr 9 false Aq)]⟩,[(0,⟨[(5,.c (xo AzS))],[(0,.box Bq),(AzS,.arr 9 false Aq)]⟩)]),(42,⟨[(0,.c AP),(1,.i),(5,.c (xo AzM)),(6,.i),(7,.i),(8,.c xb),(27,.c (xo AzM)),(28,.i),(29,.c x64)],[(0,.box Bq),(AzM,.arr 9 false Aq)]⟩,[(2,⟨[(0,.c AP),(1,.i),(5,.c (xo AzN)),(6,.i),(7,.i),(8,.c xb)],[(0,.box Bq),(AzN,.arr 9 false Aq)]⟩)])]⟩
def AoQ:=JJ 127 [Sq5,JM] [Sq1] (A00 (dD N)) [Ld N,yD N] AmN AoP f127 N
def Ae5:A07:=[(3,⟨[3],[([3],90,(.str Aq),AzN)],[],[(AzK,AzN)],[]⟩),(11,⟨[0,3,4,5,6],[([3],90,(.str Aq),AzM)],[],[(AzL,AzM)],[]⟩),(14,⟨[0,3,4],[([3],90,(.str Aq),AzK)],[],[(A0g,AzK),(AzM,AzK)],[]⟩),(34,⟨[0,3,4,5,6,23,24,25],[([3,23],90,(.str Aq),AzL)],[],[(AzK,AzL)],[]⟩)]
def Agl:Lk:=⟨[],[(14,⟨[(0,.c AP),(3,.c (xo AzK)),(4,.c x64)],[(0,.box Bq),(AzK,.arr 90 false (.str Aq))]⟩,[(0,⟨[(3,.c (xo AzN))],[(0,.box Bq),(AzN,.arr 90 false (.str Aq))]⟩)]),(34,⟨[(0,.c AP),(3,.c (xo AzL)),(4,.i),(5,.c AX),(6,.c xb),(23,.c (xo AzL)),(24,.i),(25,.c x64)],[(0,.box Bq),(AzU,.box [xs,xs]),(AzL,.arr 90 false (.str Aq))]⟩,[(2,⟨[(0,.c AP),(3,.c (xo AzM)),(4,.i),(5,.c AX),(6,.c xb)],[(0,.box Bq),(AzU,.box [xs,xs]),(AzM,.arr 90 false (.str Aq))]⟩)])]⟩
def Agm:=JJ 128 [Sq5] [Sq8] (Xu N) [Ld N,yD N] Ae5 Agl f128 N
def nC:=J8 309 [Jy,Jy,Jw] [Jw] (A01 (UR N)) [mZ N] f309 N
def ND:=J8 67 [WS,Jw] [Sq7,Jw] (A00 (NI N)) [X6 N] f67 N
def Akf:A07:=[(3,⟨[7],[([7],9,Aq,AzL)],[],[(AzK,AzL)],[]⟩),(34,⟨[7,36,37,38],[([7],9,Aq,AzK)],[],[(45056,AzK)],[]⟩)]
def AmW:Lk:=⟨[],[(34,⟨[(7,.c (xo AzK)),(36,.c (xo 41728)),(37,.i),(38,.c x64)],[(41728,.arr 3 false Au),(AzK,.arr 9 false Aq)]⟩,[(0,⟨[(7,.c (xo AzL))],[(AzL,.arr 9 false Aq)]⟩)])]⟩
def Abi:=JJ 243 [Jy] [Jy,Jw] (wE N) [Aki N,⟨319,sZ N,Adr N⟩,⟨156,ZO N,gK N⟩] Akf AmW f243 N
open Go.Proofs Go.Proofs.Tryz
def AcT:A07:=[A05 3 [],A05 11 [12,13,14],A05 18 [12,13,14],A05 38 [12,13,14,21,22,23]]
def Ae2:Lk:=⟨[],[(18,⟨[(12,.i),(13,.i),(14,.c x64)],[]⟩,[(0,⟨[],[]⟩)]),(38,⟨[(12,.i),(13,.i),(14,.i),(21,.i),(22,.i),(23,.c x64)],[]⟩,[(2,⟨[(12,.i),(13,.i),(14,.i)],[]⟩)])]⟩
def XB:=JJ 14 [Sq0] [JM] (MR N) [] AcT Ae2 f14 N
def AoK:A07:=[A05 3 [],A05 18 [2,13,14,15]]
def ArA:Lk:=⟨[],[(18,⟨[(2,.i),(13,.i),(14,.i),(15,.c x64)],[]⟩,[(0,⟨[],[]⟩)])]⟩
def ArB:=JJ 52 [Sq1,Jw,Jw] [JM] (A01 (XA N)) [] AoK ArA f52 N
def lQ:A07:=[A05 3 [],A05 18 [8,9,10]]
def oL:Lk:=⟨[],[(18,⟨[(8,.i),(9,.i),(10,.c x64)],[]⟩,[(0,⟨[],[]⟩)])]⟩
def oM:=JJ 55 [.cell false (.sl 150 Tq3)] [JM] (OD N) [] lQ oL f55 N
def Agi:=J8 7 [Sq4] [Sq5] (ZE N) [] f7 N
def ArO:A07:=[A05 3 [3],A05 22 [0,3,4]]
def Auk:Lk:=⟨[],[(22,⟨[(0,.i),(3,.c x64),(4,.c x64)],[]⟩,[(0,⟨[(3,.c x64)],[]⟩)])]⟩
def Aul:=JJ 254 [Jy] [Jw] (jB N) [] ArO Auk f254 N (bb:=[7,11,12,16,20,21])
def ArR:=J8 255 [Jw,Jw] [JM] (A00 (wF N)) [] f255 N
def AkR:=JJ 271 [.cell false (.int .u8)] [JM] (AdH N) [] [] A08 f271 N (bb:=[5,8,9,12,15,16,17,20,23,24])
def Aiy:=J8 273 [.cell false (.int .u8)] [JM] (Ub N) [] f273 N
open Go.Proofs Go.Proofs.Tryz
def Aor:=J8 44 [Jw] [JM] (VC N) [] f44 N
def WB:=JJ 45 [Sq7] [Jw] (Nv N) [] [] A08 f45 N (bb:=[6,10,11,16,17,22])
def Ahj:=J8 99 [Jw] [JM] (NV N) [] f99 N
def Aro:=J8 274 [Jw] [Jw] (Aen N) [] f274 N
def yC:=JJ 402 [.cell false (.int .u8)] [JM] (Td N) [] [] A08 f402 N (bb:=[5,8,9,12,15,16])
def AaI:=J8 403 [.cell false (.int .u8)] [JM] (Su N) [] f403 N
def AjQ:=J8 382 [Jy] [Jy,Jy] (aH N) [] f382 N
def Arw:=J8 383 [Jy,Jw] [JM] (A00 (Z9 N)) [] f383 N
open Go.Proofs Go.Proofs.Tryz
def AhG:=J8 335 [Jy] [JM] (VJ N) [] f335 N
def Zx:=J8 105 [] [.cell false (.sl 145 Tq4)] (fun _=>PR N) [] f105 N
def Ap3:=J8 351 [Jw] [Jw] (Acf N) [] f351 N
def AdV:=J8 180 [Sq2] [JM] (Zo N) [] f180 N
def AdW:=J8 183 [Sq2] [JM] (Zp N) [] f183 N
def AdX:=J8 186 [Sq2] [JM] (Zq N) [] f186 N
def AdY:=J8 189 [Sq2] [JM] (Zr N) [] f189 N
def AdZ:=J8 192 [Sq2] [JM] (Zt N) [] f192 N
open Go.Proofs Go.Proofs.Tryz
def AaV:A07:=[A05 3 [],A05 18 [8,9,10]]
def AcU:Lk:=⟨[],[(18,⟨[(8,.i),(9,.i),(10,.c x64)],[]⟩,[(0,⟨[],[]⟩)])]⟩
def fM:=JJ 53 [.cell false (.sl 156 Tq1)] [JM] (MG N) [XB N] AaV AcU f53 N
def AoU:A07:=[(3,⟨[4],[([4],3,Au,AzL)],[],[(AzK,AzL)],[]⟩),(26,⟨[4,18,19,20],[([4],3,Au,AzK)],[],[(40704,AzK)],[]⟩)]
def ArP:Lk:=⟨[],[(26,⟨[(4,.c (xo AzK)),(18,.i),(19,.i),(20,.c x64)],[(AzK,.arr 3 false Au)]⟩,[(0,⟨[(4,.c (xo AzL))],[(AzL,.arr 3 false Au)]⟩)])]⟩
def Agv:=JJ 157 [Jy] [Sq6] (ZI N) [⟨253,V8 N,dN N⟩,Aul N,ArR N] AoU ArP f157 N
def Aix:=J8 270 [.cell false (.int .u8)] [JM] (Ua N) [AkR N,⟨272,Vq N,Xn N⟩] f270 N
def AjS:A07:=[A05 3 [],A05 18 [27,28,29]]
def Am5:Lk:=⟨[],[(18,⟨[(27,.c (xo 39680)),(28,.i),(29,.c x64)],[(39680,.arr 5 false Ar)]⟩,[(0,⟨[],[]⟩)])]⟩
def Am6:=JJ 399 [Jy] [JM] (iG N) [yC N,AaI N] AjS Am5 f399 N (bb:=[8,12,13,17,18,25])
def AjU:A07:=[A05 3 [],A05 18 [32,33,34]]
def Am7:Lk:=⟨[],[(18,⟨[(32,.c (xo A0h)),(33,.i),(34,.c x64)],[(A0h,.arr 5 false Ar)]⟩,[(0,⟨[],[]⟩)])]⟩
def Am8:=JJ 379 [Jy] [JM] (YB N) [⟨381,VX N,Yj N⟩,yC N,AaI N,⟨272,Vq N,Xn N⟩] AjU Am7 f379 N (bb:=[9,13,14,18,19,26,27,30])
def AjP:A07:=[A05 3 [],A05 26 [3,4,5,6]]
def Am3:Lk:=⟨[],[(26,⟨[(3,.i),(4,.i),(5,.c xb),(6,.c x64)],[]⟩,[(0,⟨[],[]⟩)])]⟩
def Am4:=JJ 334 [Jy] [JM] (YA N) [AjQ N,Arw N] AjP Am3 f334 N (bb:=[32,34,35,38,42,43])
def Aft:A07:=[A05 3 [2],A05 10 [0,2,6,7,8]]
def Ahh:Lk:=⟨[],[(10,⟨[(0,.i),(2,.c AL),(6,.i),(7,.i),(8,.c x64)],[(AzO,.box BB)]⟩,[(0,⟨[(2,.c AL)],[(AzO,.box BB)]⟩)])]⟩
def Ahi:=JJ 219 [Jy] [Az8,JM] (Yu N) [Zx N] Aft Ahh f219 N
def Ap1:A07:=[A05 3 [0,2,5,6,7,8,9],A05 74 [0,2,5,6,7,8,9,50,51,52],A05 101 [0,2,5,6,7,8]]
def As5:Lk:=⟨[(101,⟨[(0,.i),(2,.c AL),(5,.c AX),(6,.i),(7,.c x64),(8,.c x64)],[(AzO,.box Bv),(AzU,.box Bv)]⟩)],[(74,⟨[(0,.i),(2,.c AL),(5,.c AX),(6,.i),(7,.c x64),(8,.i),(9,.i),(50,.c (xo 45568)),(51,.i),(52,.c x64)],[(AzO,.box Bv),(AzU,.box Bv),(45568,.arr 5 false Ar)]⟩,[(0,⟨[(0,.i),(2,.c AL),(5,.c AX),(6,.i),(7,.c x64),(8,.i),(9,.i)],[(AzO,.box Bv),(AzU,.box Bv)]⟩)])]⟩
def xR:=JJ 312 [Jy] [Sq7,Jy,Jw] (ZT N) [Ap3 N] Ap1 As5 f312 N
open Go.Proofs Go.Proofs.Tryz
def Aea:=J8 195 [Sq2] [JM] (TG N) [] f195 N
def Aeb:=J8 198 [Sq2] [JM] (Zu N) [] f198 N
def Aec:=J8 201 [Sq2] [JM] (Zv N) [] f201 N
def Aed:=J8 204 [Sq2] [JM] (Zw N) [] f204 N
def AcH:=J8 207 [Sq2] [JM] (Yw N) [] f207 N
def AcI:=J8 210 [Sq2] [JM] (Yx N) [] f210 N
def AcJ:=J8 213 [Sq2] [JM] (Yy N) [] f213 N
def AcK:=J8 216 [Sq2] [JM] (Yz N) [] f216 N
open Go.Proofs Go.Proofs.Tryz
def Aa2 (N n:Nat):Sig:=.of [Sq2] [.cell false .bool] (Aco N n)
def Af4 (N:Nat):ZW Tryz.prog (Aa2 N):=qX (Ju:=[Sq2]) (JB:=[.cell false .bool]) (l:=[(180,fun a=>Zo N a),(183,fun a=>Zp N a),(186,fun a=>Zq N a),(189,fun a=>Zr N a),(192,fun a=>Zt N a),(195,fun a=>TG N a),(198,fun a=>Zu N a),(201,fun a=>Zv N a),(204,fun a=>Zw N a),(207,fun a=>Yw N a),(210,fun a=>Yx N a),(213,fun a=>Yy N a),(216,fun a=>Yz N a)]) ⟨(AdV N).h,(AdW N).h,(AdX N).h,(AdY N).h,(AdZ N).h,(Aea N).h,(Aeb N).h,(Aec N).h,(Aed N).h,(AcH N).h,(AcI N).h,(AcJ N).h,(AcK N).h,trivial⟩
def Le:=J8 27 [.box [(false,.bool)],Jw,Sq1] [Jy] (A01 (JA N)) [OM N,Lr N] f27 N
def Aa3 (N n:Nat):Sig:=.of [.cell false (.int .i64)] [.cell false (.int .i64)] (qW N n)
def Af5 (N:Nat):ZW Tryz.prog (Aa3 N):=qX (Ju:=[.cell false (.int .i64)]) (JB:=[.cell false (.int .i64)]) (l:=[(257,fun a=>Qv N a)]) ⟨(Afz N).h,trivial⟩
def y8:=J8 161 [Jw,Jw] [Jw] (A00 (QD N)) [Aox N] f161 N
def rY:=J8 84 [Jy,Jw] [Jy,Jw] (A00 (VQ N)) [Abu N] f84 N
def zA:A07:=[A05 3 [2,4,5],A05 11 [2,4,5],A05 14 [1,2,4,5,6],A05 19 [2,4,11],A05 27 [4,11],A05 30 [2,4,5,7],A05 62 [2,4,5,10,11,12],A05 98 [2,4,11,204]]
def AaG:Lk:=⟨[],[(14,⟨[(1,.i),(2,.c (.c (.Kt AzO 0 0))),(4,.c (.c (.Kt AzR 0 0))),(5,.c (.c (.Kt AzU 0 0))),(6,.c x64)],[(AzO,.arr 347 false Aw),(AzR,.arr 347 false Aw),(AzU,.arr 231 false Aw)]⟩,[(0,⟨[(2,.c (.c (.Kt AzO 0 0))),(4,.c (.c (.Kt AzR 0 0))),(5,.c (.c (.Kt AzU 0 0)))],[(AzO,.arr 347 false Aw),(AzR,.arr 347 false Aw),(AzU,.arr 231 false Aw)]⟩)]),(30,⟨[(2,.c (.c (.Kt AzO 0 0))),(4,.c (.c (.Kt AzR 0 0))),(5,.c (.c (.Kt AzU 0 0))),(7,.c x64)],[(AzO,.arr 347 false Aw),(AzR,.arr 347 false Aw),(AzU,.arr 231 false Aw)]⟩,[(2,⟨[(2,.c (.c (.Kt AzO 0 0))),(4,.c (.c (.Kt AzR 0 0))),(5,.c (.c (.Kt AzU 0 0)))],[(AzO,.arr 347 false Aw),(AzR,.arr 347 false Aw),(AzU,.arr 231 false Aw)]⟩)]),(62,⟨[(2,.c (.c (.Kt AzO 0 0))),(4,.c (.c (.Kt AzR 0 0))),(5,.c (.c (.Kt AzU 0 0))),(10,.c (.c (.Kt 35328 0 0))),(11,.c (.c (.Kt A0i 0 0))),(12,.c x64)],[(AzO,.arr 347 false Aw),(AzR,.arr 347 false Aw),(AzU,.arr 231 false Aw),(35328,.arr 231 false Aw),(A0i,.arr 347 false Aw)]⟩,[(4,⟨[(2,.c (.c (.Kt AzO 0 0))),(4,.c (.c (.Kt AzR 0 0))),(11,.c (.c (.Kt A0i 0 0)))],[(AzO,.arr 347 false Aw),(AzR,.arr 347 false Aw),(A0i,.arr 347 false Aw)]⟩)]),(98,⟨[(2,.c (.c (.Kt AzO 0 0))),(4,.c (.c (.Kt AzR 0 0))),(11,.c (.c (.Kt A0i 0 0))),(204,.c x64)],[(AzO,.arr 347 false Aw),(AzR,.arr 347 false Aw),(A0i,.arr 347 false Aw)]⟩,[(6,⟨[(4,.c (.c (.Kt AzR 0 0))),(11,.c (.c (.Kt A0i 0 0)))],[(AzR,.arr 347 false Aw),(A0i,.arr 347 false Aw)]⟩)])]⟩
def bZ:=JJ 387 [AuS,AzA] [AuS] (A00 (QV N)) [Ao9 N,AjN N] zA AaG f387 N
def Ut:=J8 122 [AgV] [Jw] (ML N) [Vp N] f122 N
def Anx:A07:=[A05 3 [3],A05 11 [3,6,9],A05 14 [3,15,16,17],(19,⟨[6],[],[(none,6,Aw)],[],[]⟩),(27,⟨[12],[],[],[(51456,1032768),(AzX,1032768)],[]⟩),A05 49 [3,6,7,8],A05 62 [3,6,7,9,10],(82,⟨[3,6,11],[],[(none,6,Aw)],[],[]⟩),(102,⟨[12,74,75,76],[],[],[(51456,AzX),(56576,AzX)],[]⟩)]
def Apf:Lk:=⟨[(49,⟨[(3,.i),(6,.c (xo 39168)),(7,.i),(8,.c x64)],[(39168,.arr 162 false Aw)]⟩)],[(14,⟨[(3,.c xs),(15,.i),(16,.i),(17,.c x64)],[]⟩,[(0,⟨[(3,.c xs)],[]⟩)]),(62,⟨[(3,.i),(6,.c (xo 39168)),(7,.i),(9,.c (xo 41984)),(10,.c x64)],[(39168,.arr 162 false Aw),(41984,.arr 5 false Ar)]⟩,[(2,⟨[(3,.i),(6,.c (xo 39168)),(9,.c (xo 41984))],[(39168,.arr 162 false Aw),(41984,.arr 5 false Ar)]⟩)]),(82,⟨[(3,.i),(6,.c (xl Aw)),(11,.c x64)],[]⟩,[(4,⟨[(6,.c (xl Aw))],[]⟩)]),(102,⟨[(12,.c (xo AzX)),(74,.i),(75,.i),(76,.c x64)],[(AzX,.arr 5 false Ar)]⟩,[(6,⟨[(12,.c (xo 1032768))],[(1032768,.arr 5 false Ar)]⟩)])]⟩
def Apg:=JJ 57 [Sq1] [Jy] (nI N) [Ak4 N] Anx Apf f57 N
open Go.Proofs Go.Proofs.Tryz
def zB:A07:=[A05 3 [],A05 18 [8,9,10]]
def AaW:Lk:=⟨[],[(18,⟨[(8,.i),(9,.i),(10,.c x64)],[]⟩,[(0,⟨[],[]⟩)])]⟩
def AaX:=JJ 54 [.cell false (.sl 158 Tq2)] [JM] (P7 N) [fM N,XB N] zB AaW f54 N
def Xh:Sig:=.of [Jy] [JM] (OU N)
def TR:bH 175 (Xh N):=mM (mJ (ksp [Agv N]) []) A08 f175 N (NC (Qh _))
def AiH (N n:Nat):Sig:=.of [.cell false (.int .u8)] [.cell false .bool] (Acp N n)
def AqV (N:Nat):ZW Tryz.prog (AiH N):=qX (Ju:=[.cell false (.int .u8)]) (JB:=[.cell false .bool]) (l:=[(270,fun a=>Ua N a),(273,fun a=>Ub N a)]) ⟨(Aix N).h,(Aiy N).h,trivial⟩
def AoB:A07:=[A05 3 [],A05 18 [9,10,11]]
def Arv:Lk:=⟨[],[(18,⟨[(9,.i),(10,.i),(11,.c x64)],[]⟩,[(0,⟨[],[]⟩)])]⟩
def iF:=JJ 376 [Jy] [JM] (Qw N) [⟨253,V8 N,dN N⟩,Am6 N] AoB Arv f376 N
def nM:=J8 234 [Jy] [Sq7,Jw] (ZR N) [xR N] f234 N
def AkU:A07:=[A05 3 [],A05 18 [1,5]]
def AnX:Lk:=⟨[],[(18,⟨[(1,.i),(5,.c xs)],[]⟩,[(0,⟨[],[]⟩)])]⟩
def fH (N n:Nat):Sig:=.of [Sq7,.cell false (.int .i64)] [.cell false (.int .i64)] (fun a=>SN N n a.1 a.2)
def lF (N:Nat): ∀ n,Spec Tryz.prog 295 (fH N n)
 | 0=>AbV (C:=ctx Tryz.prog [] []) (fn:=f295) (NC (gs:=[]) trivial)
 | n+1=>Vf (C:=ctx Tryz.prog ((295,fH N n)::(ksp [xR N])) AkU) (L:=AnX) (fn:=f295) (N:=N) (NC ⟨lF N n,(Qh _)⟩)
def Acg:Sig:=fH N N
def AgP (N:Nat):Spec Tryz.prog 295 (Acg N):=lF N N
def LX:=J8 26 [.box [(false,.bool)],Sq1] [Jy] (A00 (JU N)) [Le N] f26 N
def X8:=J8 28 [.box [(false,.bool)],Jw] [Jy] (A00 (N7 N)) [fV N,Le N] f28 N
open Go.Proofs Go.Proofs.Tryz
def Akg:A07:=[(3,⟨[5],[],[],[(37888,AzL),(AzK,AzL)],[]⟩),(26,⟨[5,22,23,24],[],[],[(37888,AzK),(40448,AzK)],[]⟩)]
def AmX:Lk:=⟨[],[(26,⟨[(5,.c (xo AzK)),(22,.i),(23,.i),(24,.c x64)],[(AzK,.arr 5 true Ar)]⟩,[(0,⟨[(5,.c (xo AzL))],[(AzL,.arr 5 true Ar)]⟩)])]⟩
def YN:=JJ 79 [Jy] [Jy,Jw] (SB N) [Agv N,Aun N] Akg AmX f79 N
def y7:=JJ 160 [Jw] [Jw] (SX N) [] [] A08 f160 N (dd:=[(7,Aa3 N),(12,Aa3 N)]) (hD:=⟨Af5 N,Af5 N,trivial⟩)
def AcL:=J8 276 [.box [(false,.bool)],Jw,JM] [Jy] (A01 (Sm N)) [fU N,Le N] f276 N
def Aas:=J8 184 [.box [(false,.bool)],Sq2] [Jy] (A00 (Pv N)) [nD N,Lr N,Le N] f184 N
def uN:=J8 208 [.box [(false,.bool)],Sq2] [Jy] (A00 (Oj N)) [Le N] f208 N
def vH:A07:=[(3,⟨[0,4],[],[(none,4,Ar)],[],[]⟩),A05 13 [0,1],(22,⟨[0,4],[],[(none,4,Ar)],[],[41728]⟩)]
def yY:Lk:=⟨[(13,⟨[(0,.c AP),(1,.i)],[(0,.box Bl)]⟩)],[(22,⟨[(0,.c AP),(4,.c Bh)],[(0,.box Bl)]⟩,[(0,⟨[(0,.c AP),(4,.c Bh)],[(0,.box Bl)]⟩)])]⟩
def yZ:=JJ 349 [AuR,Jy] [] (A00 (Tv N)) [rE N,bZ N] vH yY f349 N
def AaF:A07:=[(3,⟨[3,4,5],[],[],[(41984,AzM),(AzL,AzM)],[AzM]⟩),A05 11 [3,4],A05 19 [3],A05 27 [7],(29,⟨[3,4,5],[([4],5,Ar,AzK)],[],[(41216,AzK)],[]⟩),(34,⟨[3,4,5],[],[],[(41984,AzL),(43776,AzL)],[]⟩),(46,⟨[3,4,5,6],[],[],[(47616,AzM)],[]⟩),(58,⟨[3,4],[],[(none,4,Ar)],[],[]⟩),(78,⟨[7,68,69],[([7],5,Ar,AzX)],[],[(54528,AzX)],[]⟩)]
def AcM:Lk:=⟨[(29,⟨[(3,.c (.c (.Kt AzP 0 0))),(4,.c (xo AzK)),(5,.c x64)],[(0,.box Bl),(AzP,.arr 347 false Aw),(AzK,.arr 5 false Ar)]⟩)],[(34,⟨[(3,.c (.c (.Kt AzP 0 0))),(4,.c (xo AzL)),(5,.i)],[(0,.box Bl),(AzP,.arr 347 false Aw),(AzL,.arr 5 false Ar)]⟩,[(0,⟨[(3,.c (.c (.Kt AzP 0 0))),(4,.c (xo AzM)),(5,.i)],[(0,.box Bl),(AzP,.arr 347 false Aw),(AzM,.arr 5 true Ar)]⟩)]),(46,⟨[(3,.c (.c (.Kt AzP 0 0))),(4,.c (xo AzM)),(5,.i),(6,.c x64)],[(0,.box Bl),(AzP,.arr 347 false Aw),(AzM,.arr 5 true Ar)]⟩,[(2,⟨[(3,.c (.c (.Kt AzP 0 0))),(4,.c (xo AzM))],[(0,.box Bl),(AzP,.arr 347 false Aw),(AzM,.arr 5 true Ar)]⟩)]),(58,⟨[(3,.c (.c (.Kt AzP 0 0))),(4,.c Bh)],[(0,.box Bl),(AzP,.arr 347 false Aw)]⟩,[(4,⟨[(3,.c (.c (.Kt AzP 0 0)))],[(0,.box Bl),(AzP,.arr 347 false Aw)]⟩)]),(78,⟨[(7,.c (xo AzX)),(68,.i),(69,.c x64)],[(0,.box Bl),(AzX,.arr 5 false Ar)]⟩,[(6,⟨[(7,.c (xo AzX))],[(0,.box Bl),(AzX,.arr 5 false Ar)]⟩)])]⟩
def AcN:=JJ 350 [AuR] [Jy] (Vx N) [rE N,bZ N] AaF AcM f350 N
def Ad7:=J8 17 [Jw] [Jy] (S9 N) [Asf N,Apg N] f17 N
open Go.Proofs Go.Proofs.Tryz
def Aeg:=J8 144 [WS,Jw] [Sq7,JM] (A00 (qU N)) [] f144 N
def AhP:A07:=[A05 3 [4],A05 22 [4,12,13,14]]
def Akc:Lk:=⟨[],[(22,⟨[(4,.c x64),(12,.c (xo 35840)),(13,.i),(14,.c x64)],[(35840,.arr 5 false Ar)]⟩,[(0,⟨[(4,.c x64)],[]⟩)])]⟩
def Akd:=JJ 149 [Jy] [Jw,JM] (aI N) [] AhP Akc f149 N
def Ak1:A07:=[(3,⟨[4],[([4],3,Au,AzN)],[],[(AzK,AzN)],[]⟩),(11,⟨[0,4,6,8],[([4],3,Au,AzM)],[],[(AzL,AzM)],[]⟩),(18,⟨[0,4,5,6],[([4],3,Au,AzK)],[],[(53760,AzK)],[]⟩),(58,⟨[0,4,6,7,8,9],[([4],3,Au,AzL)],[],[(AzK,AzL)],[]⟩)]
def An0:Lk:=⟨[],[(18,⟨[(0,.i),(4,.c (xo AzK)),(5,.c x64),(6,.c x64)],[(AzK,.arr 3 false Au)]⟩,[(0,⟨[(4,.c (xo AzN))],[(AzN,.arr 3 false Au)]⟩)]),(58,⟨[(0,.i),(4,.c (xo AzL)),(6,.i),(7,.i),(8,.c x64),(9,.c x64)],[(AzL,.arr 3 false Au)]⟩,[(2,⟨[(0,.i),(4,.c (xo AzM)),(6,.i),(8,.c x64)],[(AzM,.arr 3 false Au)]⟩)])]⟩
def Ab5:=JJ 223 [Jy] [Sq4,JM] (WE N) [] Ak1 An0 f223 N (bb:=[43,47,48,52,56,57,58,62,88,93,94,99,104,105])
def Ak6:A07:=[A05 3 [],A05 10 [0,3],A05 15 [0,3,5,6,7],A05 65 [0,3,4,5,6],A05 82 [0,3,5,6,7,8]]
def An3:Lk:=⟨[(65,⟨[(0,.i),(3,.c x64),(4,.i),(5,.c x64),(6,.c x64)],[]⟩)],[(10,⟨[(0,.i),(3,.c x64)],[]⟩,[(0,⟨[],[]⟩)]),(82,⟨[(0,.i),(3,.i),(5,.i),(6,.i),(7,.c x64),(8,.c x64)],[]⟩,[(3,⟨[(0,.i),(3,.i),(5,.i),(6,.i),(7,.c x64)],[]⟩)])]⟩
def An4:=JJ 296 [Jy] [JM] (YW N) [] Ak6 An3 f296 N (bb:=[87,90,91,94,97,98])
def eX:=JJ 297 [.cell false (.int .u8)] [JM] (QG N) [] [] A08 f297 N (bb:=[5,8,9,12,15,16,17,20,23,24])
def Aid:A07:=[A05 3 [],A05 10 [0,1,5]]
def Akq:Lk:=⟨[],[(10,⟨[(0,.i),(1,.i),(5,.c x64)],[]⟩,[(0,⟨[],[]⟩)])]⟩
def yF:=JJ 298 [.cell false (.int .u8),Jy] [JM] (A00 (Tm N)) [] Aid Akq f298 N
def kU:=JJ 48 [Sq7] [Jw] (TY N) [] [] A08 f48 N (bb:=[6,10,11,16,17,22])
def AnC:=J8 108 [Jw] [JM] (PN N) [] f108 N
open Go.Proofs Go.Proofs.Tryz
def Aio:A07:=[(3,⟨[5],[([5],9,Aq,AzL)],[],[(AzK,AzL)],[]⟩),(18,⟨[0,1,5,6,7],[([5],9,Aq,AzK)],[],[(40704,AzK)],[]⟩)]
def AkA:Lk:=⟨[],[(18,⟨[(0,.i),(1,.i),(5,.c (xo AzK)),(6,.c x64),(7,.c x64)],[(AzK,.arr 9 false Aq)]⟩,[(0,⟨[(5,.c (xo AzL))],[(AzL,.arr 9 false Aq)]⟩)])]⟩
def yJ:=JJ 345 [Jy,.cell false (.int .u8)] [Sq1] (A00 (QH N)) [] Aio AkA f345 N
def Aim:A07:=[A05 3 [],A05 26 [0,3,4,5]]
def Ak8:Lk:=⟨[],[(26,⟨[(0,.i),(3,.i),(4,.c xb),(5,.c x64)],[]⟩,[(0,⟨[],[]⟩)])]⟩
def Ak9:=JJ 303 [Jy] [JM] (Xk N) [] Aim Ak8 f303 N (bb:=[37,39,40,43,54,55])
def AgC:=J8 304 [Jy] [JM] (UT N) [] f304 N
def Air:A07:=[A05 3 [3],A05 14 [3,57,58,59]]
def AkE:Lk:=⟨[],[(14,⟨[(3,.c x64),(57,.c (xo 47360)),(58,.i),(59,.c x64)],[(47360,.arr 4 false (.bool .nil))]⟩,[(0,⟨[(3,.c x64)],[]⟩)])]⟩
def AkF:=JJ 114 [Sq2] [Jw] (Xl N) [] Air AkE f114 N
def AkJ:=J8 224 [] [Sq1] (fun _=>aV N) [] f224 N
def AkG:A07:=[A05 3 [4],A05 10 [1,4,8,9,10]]
def AnA:Lk:=⟨[],[(10,⟨[(1,.i),(4,.c AU),(8,.i),(9,.i),(10,.c x64)],[(AzR,.box [AB,AV,AB])]⟩,[(0,⟨[(4,.c AU)],[(AzR,.box [AB,AV,AB])]⟩)])]⟩
def AbH:=JJ 117 [.cell false (.sl 150 Tq3),Jy] [Ayk,JM] (A00 (WI N)) [] AkG AnA f117 N
def Aky:A07:=[A05 3 [0,2,5,6,8],A05 70 [0,2,5,6,8,9],A05 97 [0,2,5,6,7]]
def Anw:Lk:=⟨[(97,⟨[(0,.i),(2,.c AL),(5,.c AX),(6,.c x64),(7,.c x64)],[(AzO,.box Bv),(AzU,.box Bv)]⟩)],[(70,⟨[(0,.i),(2,.c AL),(5,.c AX),(6,.c x64),(8,.i),(9,.c x64)],[(AzO,.box Bv),(AzU,.box Bv)]⟩,[(0,⟨[(0,.i),(2,.c AL),(5,.c AX),(6,.c x64),(8,.i)],[(AzO,.box Bv),(AzU,.box Bv)]⟩)])]⟩
def Ab2:=JJ 305 [Jy] [Sq7,Jy,Jw] (YU N) [] Aky Anw f305 N
def Akz:A07:=[A05 3 [0,6],A05 22 [0,6,22,23,24],(77,⟨[6,10],[],[],[(43008,AzM),(46592,AzM),(49408,AzM),(51456,AzM)],[]⟩)]
def Anz:Lk:=⟨[(77,⟨[(6,.i),(10,.c (xo AzM))],[(AzM,.arr 5 false Ar)]⟩)],[(22,⟨[(0,.i),(6,.c xs),(22,.i),(23,.i),(24,.c x64)],[]⟩,[(0,⟨[(0,.i),(6,.c xs)],[]⟩)])]⟩
def kS:=JJ 92 [Jw,Sq1] [Jy,Jw] (A00 (SE N)) [] Akz Anz f92 N
open Go.Proofs Go.Proofs.Tryz
def AlP:=J8 356 [Jw,Jy] [Aqr] (A00 (Af0 N)) [yA N] f356 N
def AdE:=J8 148 [Jy] [Jy,Jw,Jw] (Abr N) [Abu N] f148 N
def Rk:=J8 115 [Jy] [JM] (LP N) [Ab5 N] f115 N
def Ab4:A07:=[A05 7 [],A05 25 [0,1,11],A05 30 [0,1,5]]
def Adb:Lk:=⟨[(25,⟨[(0,.i),(1,.i),(11,.c xb)],[]⟩)],[(30,⟨[(0,.i),(1,.i),(5,.c x64)],[]⟩,[(1,⟨[],[]⟩)])]⟩
def Adc:=JJ 221 [Jw,Jy] [JM] (A00 (Nl N)) [An4 N,eX N,yF N] Ab4 Adb f221 N (bb:=[22,27,32,33,34,37,43,44,50,51])
def An6:A07:=[A05 3 [],A05 11 [10,11,12],A05 18 [10,11,12],A05 38 [4,5,10,11,12]]
def Apj:Lk:=⟨[],[(18,⟨[(10,.i),(11,.i),(12,.c x64)],[]⟩,[(0,⟨[],[]⟩)]),(38,⟨[(4,.i),(5,.c x64),(10,.i),(11,.i),(12,.i)],[]⟩,[(2,⟨[(10,.i),(11,.i),(12,.i)],[]⟩)])]⟩
def aQ:=JJ 343 [Jy] [JM] (NL N) [yJ N,eX N] An6 Apj f343 N (bb:=[19,23,24,28,29,36])
def Ais:A07:=[A05 3 [],A05 10 [0,5,6,7]]
def AkH:Lk:=⟨[],[(10,⟨[(0,.i),(5,.i),(6,.i),(7,.c x64)],[]⟩,[(0,⟨[],[]⟩)])]⟩
def AkI:=JJ 116 [Jy] [JM] (aU N) [AkJ N] Ais AkH f116 N
def Ape:=J8 225 [Jy] [Sq7,Jw] (nH N) [Ab2 N] f225 N
def Aij:A07:=[A05 3 [],A05 18 [1,5]]
def Ak2:Lk:=⟨[],[(18,⟨[(1,.i),(5,.c xs)],[]⟩,[(0,⟨[],[]⟩)])]⟩
def ZM (N n:Nat):Sig:=.of [Sq7,.cell false (.int .i64)] [.cell false (.int .i64)] (fun a=>Tn N n a.1 a.2)
def fZ (N:Nat): ∀ n,Spec Tryz.prog 226 (ZM N n)
 | 0=>AbV (C:=ctx Tryz.prog [] []) (fn:=f226) (NC (gs:=[]) trivial)
 | n+1=>Vf (C:=ctx Tryz.prog ((226,ZM N n)::(ksp [Ab2 N])) Aij) (L:=Ak2) (fn:=f226) (N:=N) (NC ⟨fZ N n,(Qh _)⟩)
def yH:Sig:=ZM N N
def AeK (N:Nat):Spec Tryz.prog 226 (yH N):=fZ N N
open Go.Proofs Go.Proofs.Tryz
def AmM:A07:=[(3,⟨[2,3],[],[],[(33637,AzN),(AzK,AzN)],[]⟩),(11,⟨[0,2,3,4,5],[([5],86,Tq0,AzM)],[],[(33637,A0c),(AzL,AzM),(AzT,A0c)],[]⟩),(14,⟨[0,2,3,4],[],[],[(33637,AzK),(44288,AzK)],[]⟩),(30,⟨[0,2,3,4,5,6],[([5],86,Tq0,AzL)],[],[(33637,AzT),(43008,AzL),(AzK,AzT)],[]⟩)]
def AoN:Lk:=⟨[],[(14,⟨[(0,.c AP),(2,.c AL),(3,.c AQ),(4,.c x64)],[(0,.box Bq),(AzO,.box BD),(A0e,.KP 84 false Az),(AzP,.box [(xo AzK)]),(AzK,.arr 84 false Az)]⟩,[(0,⟨[(2,.c AL),(3,.c AQ)],[(0,.box Bq),(AzO,.box BD),(A0e,.KP 84 false Az),(AzP,.box [(xo AzN)]),(AzN,.arr 84 false Az)]⟩)]),(30,⟨[(0,.c AP),(2,.c AL),(3,.c AQ),(4,.i),(5,.c (xo AzL)),(6,.c x64)],[(0,.box Bq),(AzO,.box BD),(A0e,.KP 84 false Az),(AzP,.box [(xo AzT)]),(AzL,.arr 86 false Tq0),(AzT,.arr 84 false Az)]⟩,[(2,⟨[(0,.c AP),(2,.c AL),(3,.c AQ),(4,.i),(5,.c (xo AzM))],[(0,.box Bq),(AzO,.box BD),(A0e,.KP 84 false Az),(AzP,.box [(xo A0c)]),(AzM,.arr 86 false Tq0),(A0c,.arr 84 false Az)]⟩)])]⟩
def oK:=JJ 60 [Sq5] [Sq0] (Ue N) [Ld N,Ae4 N] AmM AoN f60 N
def xH:=J8 132 [AdL] [Jw] (VU N) [UD N,Ut N] f132 N
def Ap0:A07:=[(3,⟨[4],[([4],105,Tq5,AzL)],[],[(AzK,AzL)],[]⟩),(10,⟨[0,4],[([4],105,Tq5,AzK)],[],[(38400,AzK)],[]⟩)]
def As3:Lk:=⟨[],[(10,⟨[(0,.c xs),(4,.c (xo AzK))],[(AzK,.arr 105 false Tq5)]⟩,[(0,⟨[(4,.c (xo AzL))],[(AzL,.arr 105 false Tq5)]⟩)])]⟩
def WO:=JJ 235 [Jy] [.cell false (.sl 105 Tq5),Jw] (XK N) [xR N] Ap0 As3 f235 N
def Aj6:=J8 139 [WS] [Jw,Jw] (Adx N) [ND N,rX N] f139 N
def rM:=J8 316 [Aqs,Sq7] [Jw] (A00 (Vo N)) [AdE N,WB N] f316 N
def AdR:=J8 70 [WS] [Jy,Jw] (qC N) [ND N,AdE N] f70 N
def kT:A07:=[A05 3 [],A05 10 [0,6,7,8],A05 11 [0,6,7,8],A05 46 [0,3,4,5,6,7,8]]
def lS:Lk:=⟨[],[(10,⟨[(0,.i),(6,.i),(7,.i),(8,.c x64)],[]⟩,[(0,⟨[],[]⟩)]),(46,⟨[(0,.i),(3,.i),(4,.c AU),(5,.c x64),(6,.i),(7,.i),(8,.i)],[(AzR,.box [xs,x64,xs])]⟩,[(2,⟨[(0,.i),(6,.i),(7,.i),(8,.i)],[]⟩)])]⟩
def lT:=JJ 107 [.cell false (.sl 86 Tq0)] [Jw] (MB N) [Rk N,Adc N] kT lS f107 N
def AbL:A07:=[A05 3 [],A05 11 [0,12,13,14],A05 18 [0,12,13,14],A05 38 [0,5,6,7,12,13,14]]
def Adm:Lk:=⟨[],[(18,⟨[(0,.i),(12,.i),(13,.i),(14,.c x64)],[]⟩,[(0,⟨[],[]⟩)]),(38,⟨[(0,.i),(5,.i),(6,.i),(7,.c x64),(12,.i),(13,.i),(14,.i)],[]⟩,[(2,⟨[(0,.i),(12,.i),(13,.i),(14,.i)],[]⟩)])]⟩
def Adn:=JJ 109 [Sq1,Jw] [Jw] (A00 (SG N)) [Rk N] AbL Adm f109 N
open Go.Proofs Go.Proofs.Tryz
def Aej:A07:=[A05 49 [1,6]]
def AfB:Lk:=⟨[(49,⟨[(1,.c AO),(6,.c (xo 36864))],[(AzQ,.box [xs,xb,xs]),(36864,.arr 9 false Aq)]⟩)],[]⟩
def AfC:=JJ 164 [Ayk] [Jy,Jw] (UM N) [YN N,OM N,fU N] Aej AfB f164 N
def Ao8:A07:=[A05 3 [3],A05 14 [3,7,8,9]]
def Arq:Lk:=⟨[],[(14,⟨[(3,.c (.c (.ptr AzV 0))),(7,.i),(8,.i),(9,.c x64)],[(AzV,.box Bl)]⟩,[(0,⟨[(3,.c (.c (.ptr AzV 0)))],[(AzV,.box Bl)]⟩)])]⟩
def Ars:=JJ 308 [Sq1] [Jy] (vI N) [Am1 N,yZ N,AcN N] Ao8 Arq f308 N
def ArC:=J8 62 [Sq5] [Sq7] (vV N) [Ld N,Ad7 N] f62 N
def rO:=J8 129 [Sq5] [Sq9] (TP N) [Ld N,oK N] f129 N
def AoI:=J8 231 [Sq5] [Sq9] (XY N) [Ld N,oK N] f231 N
def Sj:Sig:=.of [Jy,Jw] [Sq7,Jw] (A00 (XR N))
def jP:bH 134 (Sj N):=mM (mJ (ksp [nM N]) []) A08 f134 N (NC (Qh _))
def TK (N:Nat):Alt:=.of [.cell false .str] [WS,.cell false (.int .i64)] [.cell false .ptr,.cell false (.int .i64)] (fun a=>Y0 N a)
def X5 (N:Nat):Spec Tryz.prog 136 (TK N).1/\Spec Tryz.prog 136 (TK N).2.1:=Wi (C:=ctx Tryz.prog (ksp [WO N]) []) (L:=⟨[],[]⟩) (fn:=f136) (N:=N) (NC (Qh _)) (by kernel_rfl) (by kernel_rfl) (fun a=>by kernel_rfl)
def VN:=J8 147 [Sq7] [Jw] (Tf N) [WO N,Abi N] f147 N
open Go.Proofs Go.Proofs.Tryz
def Vl:=J8 29 [] [Jy] (fun _=>MS N) [YN N,OM N] f29 N
def lN:=J8 80 [Al0] [Jy,Jw] (Qd N) [YN N,OM N] f80 N
def Aj9:A07:=[A05 3 [2,4,5,6],A05 11 [2,4,5,6,7],A05 22 [2,4,5,6],A05 38 [2,4,5,6,7]]
def AlN:Lk:=⟨[],[(22,⟨[(2,.c AL),(4,.i),(5,.i),(6,.c x64)],[(AzO,.box Bz)]⟩,[(0,⟨[(2,.c AL),(4,.i),(5,.i),(6,.c x64)],[(AzO,.box Bz)]⟩)]),(38,⟨[(2,.c AL),(4,.c x64),(5,.i),(6,.i),(7,.c x64)],[(AzO,.box Bz)]⟩,[(2,⟨[(2,.c AL),(4,.c x64),(5,.i),(6,.i),(7,.c x64)],[(AzO,.box Bz)]⟩)])]⟩
def AlO:=JJ 82 [Jw] [Aqr,Jw] (Uj N) [y7 N,y8 N] Aj9 AlN f82 N
def yR:A07:=[A05 17 [0,3,5]]
def Aap:Lk:=⟨[(17,⟨[(0,.c AP),(3,.c AQ),(5,.c xs)],[(0,.box [xb]),(AzP,.box Bj)]⟩)],[]⟩
def Aaq:=JJ 181 [.box [(false,.bool)],Sq2] [Jy] (A00 (Pn N)) [X8 N,AcL N,LX N] yR Aap f181 N
def Yv:=J8 281 [.box [(false,.bool)],Jy] [Jy] (A00 (Qs N)) [YN N,Lr N,Le N] f281 N
def uM:A07:=[A05 3 [0,5],A05 14 [0,5,13,14,15]]
def yS:Lk:=⟨[],[(14,⟨[(0,.c AP),(5,.c (xo AzW)),(13,.c (xo 36096)),(14,.i),(15,.c x64)],[(0,.box [xb]),(AzW,.arr 9 false Aq),(36096,.arr 3 false Au)]⟩,[(0,⟨[(0,.c AP),(5,.c (xo AzW))],[(0,.box [xb]),(AzW,.arr 9 false Aq)]⟩)])]⟩
def yT:=JJ 196 [.box [(false,.bool)],Sq2] [Jy] (A00 (OO N)) [fV N,Le N,LX N] uM yS f196 N
def uK:=J8 199 [.box [(false,.bool)],Sq2] [Jy] (A00 (Oi N)) [X8 N] f199 N
def nT:=J8 211 [.box [(false,.bool)],Sq2] [Jy] (A00 (Nz N)) [Le N,LX N] f211 N
open Go.Proofs Go.Proofs.Tryz
def nU:A07:=[(3,⟨[0,5],[([5],9,Aq,AzL)],[],[(AzK,AzL)],[]⟩),(14,⟨[0,5,9,10,11],[([5],9,Aq,AzK)],[],[(39936,AzK)],[]⟩)]
def qJ:Lk:=⟨[],[(14,⟨[(0,.c AP),(5,.c (xo AzK)),(9,.i),(10,.i),(11,.c x64)],[(0,.box [xb]),(AzK,.arr 9 false Aq)]⟩,[(0,⟨[(0,.c AP),(5,.c (xo AzL))],[(0,.box [xb]),(AzL,.arr 9 false Aq)]⟩)])]⟩
def qK:=JJ 193 [.box [(false,.bool)],Sq2] [Jy] (A00 (NM N)) [Yv N,LX N] nU qJ f193 N
def TM:=J8 229 [Sq1] [Jy] (Nh N) [Ars N] f229 N
def Ae3:A07:=[(3,⟨[0,2,3],[],[],[(33637,AzL),(AzK,AzL)],[]⟩),(11,⟨[0,2,3],[],[],[(33638,AzN),(AzM,AzN)],[]⟩),(14,⟨[0,2,3,4],[],[],[(33637,AzK),(37376,AzK)],[]⟩),(30,⟨[0,2,3,5],[],[],[(33638,AzM),(40704,AzM)],[]⟩)]
def Agj:Lk:=⟨[],[(14,⟨[(0,.c AP),(2,.c AL),(3,.c AQ),(4,.c x64)],[(0,.box Bq),(AzO,.box BC),(A0e,.KP 156 false Tq1),(33282,.KP 156 false Tq1),(AzP,.box [(xo AzK),(xo 33638)]),(33638,.KP 156 false Tq1),(AzK,.arr 156 false Tq1)]⟩,[(0,⟨[(0,.c AP),(2,.c AL),(3,.c AQ)],[(0,.box Bq),(AzO,.box BC),(A0e,.KP 156 false Tq1),(33282,.KP 156 false Tq1),(AzP,.box [(xo AzL),(xo 33638)]),(33638,.KP 156 false Tq1),(AzL,.arr 156 false Tq1)]⟩)]),(30,⟨[(0,.c AP),(2,.c AL),(3,.c AQ),(5,.c x64)],[(0,.box Bq),(AzO,.box BC),(A0e,.KP 156 false Tq1),(33282,.KP 156 false Tq1),(AzP,.box [(xo AzL),(xo AzM)]),(AzL,.arr 156 false Tq1),(AzM,.arr 156 false Tq1)]⟩,[(2,⟨[(0,.c AP),(2,.c AL),(3,.c AQ)],[(0,.box Bq),(AzO,.box BC),(A0e,.KP 156 false Tq1),(33282,.KP 156 false Tq1),(AzP,.box [(xo AzL),(xo AzN)]),(AzL,.arr 156 false Tq1),(AzN,.arr 156 false Tq1)]⟩)])]⟩
def Agk:=JJ 130 [Sq5] [Alz] (Xt N) [Ld N,AoI N] Ae3 Agj f130 N
def AhO:A07:=[(3,⟨[3],[([3],158,Tq2,AzM)],[],[(AzK,AzM)],[]⟩),(14,⟨[0,3,4],[([3],158,Tq2,AzK)],[],[(41216,AzK)],[]⟩),(33,⟨[0,3,4,5],[([3],158,Tq2,AzL)],[(some AzU,3,Az)],[(AzK,AzL)],[]⟩)]
def AjZ:Lk:=⟨[(33,⟨[(0,.c AP),(3,.c (xo AzL)),(4,.i),(5,.c AX)],[(0,.box Bq),(AzU,.box [(xo 36608),x64,xb,Bi]),(36608,.arr 156 false Tq1),(AzL,.arr 158 false Tq2)]⟩)],[(14,⟨[(0,.c AP),(3,.c (xo AzK)),(4,.c x64)],[(0,.box Bq),(AzK,.arr 158 false Tq2)]⟩,[(0,⟨[(3,.c (xo AzM))],[(0,.box Bq),(AzM,.arr 158 false Tq2)]⟩)])]⟩
def Aka:=JJ 131 [Sq5] [.cell false (.sl 158 Tq2)] (Xg N) [Ld N,rO N,kD N] AhO AjZ f131 N
def Qq:Sig:=.of [.box [(false,.bool)],.box [(false,.str)],.box [(false,.str)]] [Jy] (A01 (QB N))
def AdP:bH 135 (Qq N):=mM (mJ (ksp [Vl N,rY N,Lr N,Le N,LX N]) []) A08 f135 N (NC (Qh _))
def uS (N:Nat):Alt:=.of [.cell false .str,.cell false (.int .i64)] [WS,.cell false (.int .i64)] [.cell false .ptr,.cell false (.int .i64)] (fun a=>AlS N a.1 a.2)
def AlT (N:Nat):Spec Tryz.prog 66 (uS N).1/\Spec Tryz.prog 66 (uS N).2.1:=Wi (C:=ctx Tryz.prog (ksp [⟨134,Sj N,jP N⟩]) [] [(136,TK N)]) (L:=⟨[],[]⟩) (fn:=f66) (N:=N) (NC (Qh _) ⟨X5 N,trivial⟩) (by kernel_rfl) (by kernel_rfl) (fun a=>by kernel_rfl)
def jJ:=J8 69 [WS] [Jw] (Zn N) [X6 N,VN N] f69 N
end
end Go.Proofs.YtdihmdelaolelaaGreatDoor.Vm
