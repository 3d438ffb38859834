import Derived.Test.YtdihmdelaolelaaGreatDoorA14
import Derived.Test.YtdihmdelaolelaaGreatDoorA17
set_option linter.all false
namespace Go.Proofs.YtdihmdelaolelaaGreatDoor.Vm
noncomputable section
variable (N:Nat)
open Go.Proofs Go.Proofs.Tryz
def AjY:=JJ 4 [Sq3] [JM] (Xf N) [XB N,Ae1 N] [] A08 f4 N (bb:=[6,10,11,15,16,22,23,29,30,35,36,41,42,47])
def AnV:=J8 176 [Jw,Jy] [JM] (A00 (UE N)) [⟨268,AgM N,AkS N⟩,As2 N] f176 N
def AfP:=J8 330 [Jy] [JM] (UN N) [Ad2 N,⟨377,Zf N,lV N⟩,iF N] f330 N
def lJ:A07:=[A05 3 [],A05 10 [0,10,11,12],A05 11 [0,4,10,11,12],A05 42 [0,4,10,11,12,30,31,32]]
def nR:Lk:=⟨[],[(10,⟨[(0,.i),(10,.i),(11,.i),(12,.c x64)],[]⟩,[(0,⟨[],[]⟩)]),(42,⟨[(0,.i),(4,.c AU),(10,.i),(11,.i),(12,.i),(30,.i),(31,.i),(32,.c x64)],[(AzR,.box [xs,xb,xs])]⟩,[(2,⟨[(0,.i),(4,.c AU),(10,.i),(11,.i),(12,.i)],[(AzR,.box [xs,xb,xs])]⟩)])]⟩
def nS:=JJ 106 [.cell false (.sl 150 Tq3)] [Jw] (OB N) [⟨175,Xh N,TR N⟩,Ahi N,⟨220,AdI N,tK N⟩] lJ nR f106 N
def Ahp:A07:=[A05 3 [6,7],(37,⟨[4,6,7],[],[],[(38144,AzK),(39680,AzK)],[]⟩),(42,⟨[6,7,38,39,40],[],[],[(44544,AzK)],[]⟩)]
def AjC:Lk:=⟨[(37,⟨[(4,.c AU),(6,.c x64),(7,.c (xo AzK))],[(AzR,.box BF),(AzK,.arr 5 false Ar)]⟩)],[(42,⟨[(6,.i),(7,.c (xo AzK)),(38,.c (xo 42496)),(39,.i),(40,.c x64)],[(42496,.arr 3 false Au),(AzK,.arr 5 false Ar)]⟩,[(0,⟨[(6,.i),(7,.c (xo AzK))],[(AzK,.arr 5 false Ar)]⟩)])]⟩
def AjD:=JJ 32 [Jw] [Jy,Jw] (QC N) [AlO N,AqQ N,OM N] Ahp AjC f32 N
def Aew:=J8 33 [Sq7] [Jy,Jw] (Wy N) [WB N,AcP N,rY N,OM N,Vl N] f33 N
def nX:A07:=[(3,⟨[0,5],[([5],9,Aq,AzL)],[],[(AzK,AzL)],[]⟩),(14,⟨[0,5,9,10,11],[([5],9,Aq,AzK)],[],[(37888,AzK)],[]⟩)]
def qN:Lk:=⟨[],[(14,⟨[(0,.c AP),(5,.c (xo AzK)),(9,.i),(10,.i),(11,.c x64)],[(0,.box [xb]),(AzK,.arr 9 false Aq)]⟩,[(0,⟨[(0,.c AP),(5,.c (xo AzL))],[(0,.box [xb]),(AzL,.arr 9 false Aq)]⟩)])]⟩
def qO:=JJ 187 [.box [(false,.bool)],Sq2] [Jy] (A00 (NQ N)) [Yv N,LX N] nX qN f187 N
def nV:A07:=[(3,⟨[0,5],[([5],9,Aq,AzL)],[],[(AzK,AzL)],[]⟩),(14,⟨[0,5,9,10,11],[([5],9,Aq,AzK)],[],[(38656,AzK)],[]⟩)]
def qL:Lk:=⟨[],[(14,⟨[(0,.c AP),(5,.c (xo AzK)),(9,.i),(10,.i),(11,.c x64)],[(0,.box [xb]),(AzK,.arr 9 false Aq)]⟩,[(0,⟨[(0,.c AP),(5,.c (xo AzL))],[(0,.box [xb]),(AzL,.arr 9 false Aq)]⟩)])]⟩
def qM:=JJ 190 [.box [(false,.bool)],Sq2] [Jy] (A00 (NP N)) [Yv N,LX N] nV qL f190 N
open Go.Proofs Go.Proofs.Tryz
def nZ:A07:=[A05 3 [],A05 11 [0,13,14,15],A05 26 [0,13,14,15],A05 62 [0,4,13,14,15,41,42,43]]
def qZ:Lk:=⟨[],[(26,⟨[(0,.i),(13,.i),(14,.i),(15,.c x64)],[]⟩,[(0,⟨[],[]⟩)]),(62,⟨[(0,.i),(4,.c AU),(13,.i),(14,.i),(15,.i),(41,.i),(42,.i),(43,.c x64)],[(AzR,.box [xs,x64,xs])]⟩,[(2,⟨[(0,.i),(13,.i),(14,.i),(15,.i)],[]⟩)])]⟩
def rC:=JJ 98 [.cell false (.sl 86 Tq0)] [Jw] (Pg N) [⟨175,Xh N,TR N⟩,AnV N] nZ qZ f98 N
def AaE:=JJ 275 [Jw,Jy,JM] [JM] (A01 (Pz N)) [AfP N,Ad2 N,AoA N,AhH N,Am4 N,AhG N] [] A08 f275 N (bb:=[11,14,15,18,21,22,26,29,30,33,36,37,41,44,45,48,51,52])
def AjK:A07:=[(3,⟨[5],[([5],9,Aq,AzL)],[],[(AzK,AzL)],[]⟩),(26,⟨[5,17,18,19],[([5],9,Aq,AzK)],[],[(41216,AzK)],[]⟩)]
def Amj:Lk:=⟨[],[(26,⟨[(5,.c (xo AzK)),(17,.i),(18,.i),(19,.c x64)],[(AzK,.arr 9 false Aq)]⟩,[(0,⟨[(5,.c (xo AzL))],[(AzL,.arr 9 false Aq)]⟩)])]⟩
def Amk:=JJ 87 [.cell false (.sl 150 Tq3)] [Jy,Jw] (iD N) [⟨163,aC N,Ah8 N⟩,AfC N,OM N] AjK Amj f87 N
def WW (N:Nat):Alt:=.of [.cell false .str,.cell false (.int .i64)] [AgV,.cell false (.int .i64)] [.cell false .ptr,.cell false (.int .i64)] (fun a=>Vy N a.1 a.2)
def zC (N:Nat):Spec Tryz.prog 121 (WW N).1/\Spec Tryz.prog 121 (WW N).2.1:=Wi (C:=ctx Tryz.prog (ksp [TM N]) [] [] [] [23]) (L:=⟨[],[]⟩) (fn:=f121) (N:=N) (NC (Qh _)) (by kernel_rfl) (by kernel_rfl) (fun a=>by kernel_rfl)
def AmL:A07:=[A05 3 [2,3],A05 14 [0,2,3,4],A05 41 [0,2,3,4,13,27]]
def AoL:Lk:=⟨[(41,⟨[(0,.c AP),(2,.c AL),(3,.c AQ),(4,.i),(13,.i),(27,.c xb)],[(0,.box Bq),(AzO,.box Bo),(33285,.KP 9 false Aq),(33286,.KP 9 false Aq),(33287,.KP 90 false (.str Aq)),(33291,.KP 156 false Tq1),(33293,.KP 156 false Tq1),(33294,.KP 156 false Tq1),(33297,.KP 158 false Tq2),(33298,.KP 158 false Tq2),(33299,.KP 150 false Tq3),(AzP,.box Bj)]⟩)],[(14,⟨[(0,.c AP),(2,.c AL),(3,.c AQ),(4,.c x64)],[(0,.box Bq),(AzO,.box Bo),(33285,.KP 9 false Aq),(33286,.KP 9 false Aq),(33287,.KP 90 false (.str Aq)),(33291,.KP 156 false Tq1),(33293,.KP 156 false Tq1),(33294,.KP 156 false Tq1),(33297,.KP 158 false Tq2),(33298,.KP 158 false Tq2),(33299,.KP 150 false Tq3),(AzP,.box Bj)]⟩,[(0,⟨[(2,.c AL),(3,.c AQ)],[(0,.box Bq),(AzO,.box Bo),(33285,.KP 9 false Aq),(33286,.KP 9 false Aq),(33287,.KP 90 false (.str Aq)),(33291,.KP 156 false Tq1),(33293,.KP 156 false Tq1),(33294,.KP 156 false Tq1),(33297,.KP 158 false Tq2),(33298,.KP 158 false Tq2),(33299,.KP 150 false Tq3),(AzP,.box Bj)]⟩)])]⟩
def AoM:=JJ 63 [Sq5] [Sq2] (mW N) [AnB N,Ld N,AoQ N,Agm N,rO N,Agk N,Aka N] AmL AoL f63 N
def mY:=J8 152 [Jy,Jw,Jw,Jy,Jy] [Jy] (fun a=>Xw N a.1 a.2.1 a.2.2.1 a.2.2.2.1 a.2.2.2.2) [AoT N,oN N,TM N] f152 N
def AoZ:A07:=[A05 3 [5],A05 10 [0,1,2,4,5,13]]
def ArY:Lk:=⟨[],[(10,⟨[(0,.i),(1,.i),(2,.i),(4,.i),(5,.c xs),(13,.c x64)],[]⟩,[(0,⟨[(5,.c xs)],[]⟩)])]⟩
def wJ:=JJ 246 [Jy,Jw,Jw,Jw,Jw,Jy] [Jy] (fun a=>ZJ N a.1 a.2.1 a.2.2.1 a.2.2.2.1 a.2.2.2.2.1 a.2.2.2.2.2) [AeC N,Anf N,TM N] AoZ ArY f246 N
def Abn:=J8 247 [Jy,Jw,Sq1] [Jy] (A01 (YO N)) [AeC N,Agz N,TM N] f247 N
open Go.Proofs Go.Proofs.Tryz
def An7:A07:=[A05 3 [],A05 10 [3,7,8,9]]
def Apk:Lk:=⟨[],[(10,⟨[(3,.c AQ),(7,.i),(8,.i),(9,.c x64)],[(AzP,.box [xs,x64,xs])]⟩,[(0,⟨[],[]⟩)])]⟩
def Apl:=JJ 307 [.cell false (.sl 86 Tq0),Al0] [JM] (A00 (Yf N)) [AcZ N] An7 Apk f307 N
open Go.Proofs Go.Proofs.Tryz
def lU:=J8 267 [.cell false (.sl 150 Tq3)] [Jw] (Qn N) [Adl N] f267 N
def Af8:A07:=[A05 3 [],A05 18 [2,3,15,16]]
def Ah1:Lk:=⟨[],[(18,⟨[(2,.c AL),(3,.c AQ),(15,.i),(16,.c x64)],[(AzO,.box [Bi]),(AzP,.box [Bi])]⟩,[(0,⟨[],[]⟩)])]⟩
def Ah2:=JJ 119 [Sq0,Sq0] [JM] (A00 (VF N)) [Amc N] Af8 Ah1 f119 N
def Adh:A07:=[A05 3 [],A05 18 [0,1,12,13]]
def AeO:Lk:=⟨[],[(18,⟨[(0,.i),(1,.i),(12,.i),(13,.c x64)],[]⟩,[(0,⟨[],[]⟩)])]⟩
def AeP:=JJ 228 [.cell false (.sl 86 Tq0),.cell false (.sl 86 Tq0)] [JM] (A00 (WH N)) [Apl N] Adh AeO f228 N
open Go.Proofs Go.Proofs.Tryz
def Abp:=J8 310 [Jy,Jw,Jw] [Jy] (A01 (YP N)) [AeC N,Anf N,TM N] f310 N
def mX:=J8 151 [Sq7,Jw,Jy] [Jy] (A01 (RH N)) [oN N,TM N] f151 N
def Aos:=J8 239 [WS] [Jw,Jw] (Aal N) [X6 N,AjB N] f239 N
def AiI (N n:Nat):Sig:=.of [Aqs,Sq7] [.cell false (.int .i64)] (ApK N n)
def AqW (N:Nat):ZW Tryz.prog (AiI N):=qX (Ju:=[Aqs,Sq7]) (JB:=[.cell false (.int .i64)]) (l:=[(315,fun a=>QX N a.1 a.2),(316,fun a=>Vo N a.1 a.2)]) ⟨(eP N).h,(rM N).h,trivial⟩
def sG:A07:=[A05 53 [2,5]]
def wR:Lk:=⟨[(53,⟨[(2,.c AL),(5,.c xb)],[(AzO,.box [x64,xs,Bi])]⟩)],[]⟩
def Uz:=JJ 222 [Sq9,JM] [Jw] (A00 (Oq N)) [AeM N,Ab9 N,An5 N,AgD N,Ak9 N,AgC N,TA N] sG wR f222 N (bb:=[11,15,16,19,23,24,28,32,33,36,40,41,45,49,50,53,57,58])
def iL:A07:=[A05 3 [5],A05 26 [5,17,18,19],A05 45 [5,7,8,17,18,19]]
def kV:Lk:=⟨[(45,⟨[(5,.i),(7,.c (.c (.ptr 34560 0))),(8,.c xs),(17,.i),(18,.i),(19,.i)],[(34560,.box [xs,xb,xs])]⟩)],[(26,⟨[(5,.c xs),(17,.i),(18,.i),(19,.c x64)],[]⟩,[(0,⟨[(5,.c xs)],[]⟩)])]⟩
def kW:=JJ 173 [.cell false (.sl 150 Tq3)] [Jy,Jw] (PM N) [lU N,dI N,LC N,Vd N,aS N] iL kV f173 N
def AjG:=J8 50 [Sq0,Sq0] [JM] (A00 (aA N)) [Ah2 N] f50 N
open Go.Proofs Go.Proofs.Tryz
def Ahx:A07:=[A05 3 [],A05 18 [11,12,13]]
def AjF:Lk:=⟨[],[(18,⟨[(11,.i),(12,.i),(13,.c x64)],[]⟩,[(0,⟨[],[]⟩)])]⟩
def UK:=JJ 43 [Sq0] [Jw] (NW N) [rC N] Ahx AjF f43 N
def pG (N:Nat):Alt:=.of [.cell false .str,.cell false (.int .i64),.cell false (.int .i64)] [AdL,.cell false (.int .i64)] [.cell false .ptr,.cell false (.int .i64)] (fun a=>AbU N a.1 a.2.1 a.2.2)
def AkK (N:Nat):Spec Tryz.prog 56 (pG N).1/\Spec Tryz.prog 56 (pG N).2.1:=Wi (C:=ctx Tryz.prog (ksp [Ut N]) [] [(121,WW N)]) (L:=⟨[],[]⟩) (fn:=f56) (N:=N) (NC (Qh _) ⟨zC N,trivial⟩) (by kernel_rfl) (by kernel_rfl) (fun a=>by kernel_rfl)
def AmK:A07:=[A05 17 [2,3]]
def AoJ:Lk:=⟨[(17,⟨[(2,.c AL),(3,.c AQ)],[(0,.box Bq),(AzO,.box [AB,AB,AA,(xo 33284),(xo 33285),AA,AA,AA,AB,AB,AV,AV,AA,AA,(xo 33295),(xo 33296),(xo 33297),AA,AA,AA,(xo 33301),AV,(xo 33303),(xo 33304),AB,AB,(xo 33307),(xo 33308),(xo 33309),AB]),(33284,.KP 84 false Az),(33285,.KP 84 false Az),(33295,.KP 9 false Aq),(33296,.KP 9 false Aq),(33297,.KP 90 false (.str Aq)),(33301,.KP 156 false Tq1),(33303,.KP 156 false Tq1),(33304,.KP 156 false Tq1),(33307,.KP 158 false Tq2),(33308,.KP 158 false Tq2),(33309,.KP 150 false Tq3),(AzP,.box [AB,AB,x64,Bi,Bi,x64,x64,x64,xs,xs,xb,xb,x64,x64,Be,Be,(xl (.str Aq)),x64,x64,x64,Bc,xb,Bc,Bc,xs,xs,Bd,Bd,Bf,AB])]⟩)],[]⟩
def Ad6:=JJ 18 [Sq5] [Sq3] (Sz N) [Ld N,kD N,oK N,AoO N,ArC N,AoM N] AmK AoJ f18 N
def Akk:A07:=[A05 3 [0,2,9],(26,⟨[0,1,2,9,10],[([9],9,Aq,AzK)],[],[(A0h,AzK)],[]⟩)]
def Anc:Lk:=⟨[],[(26,⟨[(0,.i),(1,.i),(2,.i),(9,.c (xo AzK)),(10,.c x64)],[(AzK,.arr 9 false Aq)]⟩,[(0,⟨[(0,.i),(2,.i),(9,.c (xo AzK))],[(AzK,.arr 9 false Aq)]⟩)])]⟩
def Ane:=JJ 249 [Jy,Jy,Jw] [Jy,Jw] (A01 (iJ N)) [nC N,Abp N,wJ N,Abn N] Akk Anc f249 N
def AoX:A07:=[A05 3 [13],(38,⟨[0,1,2,11,13,14],[([13],9,Aq,AzK)],[],[(45056,AzK)],[]⟩)]
def ArV:Lk:=⟨[],[(38,⟨[(0,.i),(1,.i),(2,.i),(11,.i),(13,.c (xo AzK)),(14,.c x64)],[(AzK,.arr 9 false Aq)]⟩,[(0,⟨[(13,.c (xo AzK))],[(AzK,.arr 9 false Aq)]⟩)])]⟩
def ArW:=JJ 232 [Jy,Jy,Jw,Jy] [Jy,Jw] (fun a=>wI N a.1 a.2.1 a.2.2.1 a.2.2.2) [nC N,Abm N,Abp N,wJ N,Agz N] AoX ArV f232 N
def Afq:=JJ 141 [WS] [Jw,Jw,Jw] (xY N) [Aos N,WU N] [] A08 f141 N (aa:=[(238,Vh N)]) (hA:=⟨qV N,trivial⟩)
def AcO:A07:=[A05 3 [2,4,7,8],A05 50 [2,4,7,8,35,36,37]]
def Aeu:Lk:=⟨[],[(50,⟨[(2,.c AL),(4,.c AU),(7,.c (xl Tq5)),(8,.c AY),(35,.c (xo 41728)),(36,.i),(37,.c x64)],[(AzO,.box Bv),(AzR,.box Bv),(AzW,.box [x64,xs,xs]),(41728,.arr 300 false (.fn .nil))]⟩,[(0,⟨[(2,.c AL),(4,.c AU),(7,.c (xl Tq5)),(8,.c AY)],[(AzO,.box Bv),(AzR,.box Bv),(AzW,.box [x64,xs,xs])]⟩)])]⟩
def Aev:=JJ 240 [Jy] [Sq7,Jw] (rJ N) [nM N,WO N] AcO Aeu f240 N (dd:=[(45,AiI N)]) (hD:=⟨AqW N,trivial⟩)
def AhT:A07:=[A05 3 [0,1,13],(46,⟨[0,1,3,11,13,14],[([13],9,Aq,AzK)],[],[(46336,AzK)],[]⟩)]
def Akl:Lk:=⟨[],[(46,⟨[(0,.i),(1,.i),(3,.i),(11,.i),(13,.c (xo AzK)),(14,.c x64)],[(AzK,.arr 9 false Aq)]⟩,[(0,⟨[(0,.i),(1,.i),(13,.c (xo AzK))],[(AzK,.arr 9 false Aq)]⟩)])]⟩
def Akm:=JJ 150 [Jy,Jw,Jy,Jy] [Jy,Jw] (fun a=>aJ N a.1 a.2.1 a.2.2.1 a.2.2.2) [mZ N,Abm N,wJ N,Abn N] AhT Akl f150 N
open Go.Proofs Go.Proofs.Tryz
def eF:=J8 177 [Sq9,JM] [Jw] (A00 (UY N)) [Aro N,UK N,AaE N] f177 N
def Af7:A07:=[(3,⟨[5],[([5],9,Aq,AzN)],[],[(AzK,AzN)],[]⟩),(11,⟨[5,8,21,22,23],[([8],9,Aq,AzM),([5],9,Aq,A0c)],[],[(AzL,AzM),(AzT,A0c)],[]⟩),(26,⟨[5,21,22,23],[([5],9,Aq,AzK)],[],[(47872,AzK)],[]⟩),(42,⟨[5,8,21,22,23,27,28,29],[([8],9,Aq,AzL),([5],9,Aq,AzT)],[],[(44032,AzL),(AzK,AzT)],[]⟩)]
def Ah0:Lk:=⟨[],[(26,⟨[(5,.c (xo AzK)),(21,.i),(22,.i),(23,.c x64)],[(AzK,.arr 9 false Aq)]⟩,[(0,⟨[(5,.c (xo AzN))],[(AzN,.arr 9 false Aq)]⟩)]),(42,⟨[(5,.c (xo AzT)),(8,.c (xo AzL)),(21,.i),(22,.i),(23,.i),(27,.i),(28,.i),(29,.c x64)],[(AzL,.arr 9 false Aq),(AzT,.arr 9 false Aq)]⟩,[(2,⟨[(5,.c (xo A0c)),(8,.c (xo AzM)),(21,.i),(22,.i),(23,.i)],[(AzM,.arr 9 false Aq),(A0c,.arr 9 false Aq)]⟩)])]⟩
def qY:=JJ 31 [Sq0] [Jy,Jw] (TL N) [UK N,lN N,⟨81,pK N,Aiz N⟩,OM N] Af7 Ah0 f31 N
def kY (N:Nat):Alt:=.of [.cell false .str,.cell false (.int .i64)] [AdL,.cell false (.int .i64)] [.cell false .ptr,.cell false (.int .i64)] (fun a=>Zc N a.1 a.2)
def Aiu (N:Nat):Spec Tryz.prog 16 (kY N).1/\Spec Tryz.prog 16 (kY N).2.1:=Wi (C:=ctx Tryz.prog (ksp []) [] [(56,pG N)]) (L:=⟨[],[]⟩) (fn:=f16) (N:=N) (NC (Qh _) ⟨AkK N,trivial⟩) (by kernel_rfl) (by kernel_rfl) (fun a=>by kernel_rfl)
def zF:A07:=[(3,⟨[0,2],[([2],9,Aq,AzL)],[],[(AzK,AzL)],[]⟩),(11,⟨[],[],[],[(44032,A0d),(AzM,A0d)],[]⟩),(14,⟨[0,2,3],[([2],9,Aq,AzK)],[],[(A0g,AzK)],[]⟩),(19,⟨[0,6,7],[([7],9,Aq,AzS)],[],[(44032,1016400),(AzN,AzS),(A0j,1016400)],[]⟩),(38,⟨[0,2,6],[],[],[(44032,AzM),(56576,AzM),(AzS,AzL)],[]⟩),(54,⟨[0,2,6,7,8],[([7],9,Aq,AzN)],[],[(44032,A0j),(54016,AzN),(AzM,A0j)],[]⟩)]
def Abe:Lk:=⟨[],[(14,⟨[(0,.c AP),(2,.c (xo AzK)),(3,.c x64)],[(0,.box BA),(AzK,.arr 9 false Aq)]⟩,[(0,⟨[(0,.c AP),(2,.c (xo AzL))],[(0,.box BA),(AzL,.arr 9 false Aq)]⟩)]),(38,⟨[(0,.c AP),(2,.c (xo AzL)),(6,.c x64)],[(0,.box [(xo AzM),xs,xs,x64]),(AzL,.arr 9 true Aq),(AzM,.arr 27 false (.sl 9 Aq .nil))]⟩,[(2,⟨[],[(0,.box [(xo A0d),xs,xs,x64]),(A0d,.arr 27 false (.sl 9 Aq .nil))]⟩)]),(54,⟨[(0,.c AP),(2,.c (xo AzL)),(6,.i),(7,.c (xo AzN)),(8,.c x64)],[(0,.box [(xo A0j),xs,xs,x64]),(AzL,.arr 9 true Aq),(AzN,.arr 9 false Aq),(A0j,.arr 27 false (.sl 9 Aq .nil))]⟩,[(4,⟨[(0,.c AP),(6,.i),(7,.c (xo AzS))],[(0,.box [(xo 1016400),xs,xs,x64]),(AzS,.arr 9 false Aq),(1016400,.arr 27 false (.sl 9 Aq .nil))]⟩)])]⟩
def Abf:=JJ 154 [AgV] [] (Ob N) [Ane N,mY N] zF Abe f154 N
def Af6:A07:=[(3,⟨[2,4,8],[],[],[(34817,AzL),(AzK,AzL)],[]⟩),(50,⟨[2,4,8,37,38,39],[],[],[(34817,AzK),(47104,AzK)],[]⟩)]
def Ahy:Lk:=⟨[],[(50,⟨[(2,.c AL),(4,.c AU),(8,.c AY),(37,.i),(38,.i),(39,.c x64)],[(AzO,.box BD),(A0e,.KP 84 false Az),(AzR,.box [(xo 33793)]),(33793,.KP 84 false Az),(AzW,.box [(xo AzK)]),(AzK,.arr 84 false Az)]⟩,[(0,⟨[(2,.c AL),(4,.c AU),(8,.c AY)],[(AzO,.box BD),(A0e,.KP 84 false Az),(AzR,.box [(xo 33793)]),(33793,.KP 84 false Az),(AzW,.box [(xo AzL)]),(AzL,.arr 84 false Az)]⟩)])]⟩
def Ahz:=JJ 237 [Jy] [Sq0,Jw] (Aa4 N) [nM N,WO N,o6 N,UK N] Af6 Ahy f237 N
def AqI:=J8 142 [WS] [Sq7,Jw] (AlK N) [ND N,Aev N] f142 N
def Ae9:A07:=[A05 3 [3,10],A05 58 [3,10,12,13,14],A05 61 [3,10,12,13,14]]
def Agp:Lk:=⟨[(61,⟨[(3,.c AQ),(10,.c xs),(12,.i),(13,.i),(14,.i)],[(AzP,.box [x64,xs,xs])]⟩)],[(58,⟨[(3,.c AQ),(10,.c xs),(12,.i),(13,.c x64),(14,.c x64)],[(AzP,.box [x64,xs,xs])]⟩,[(0,⟨[(3,.c AQ),(10,.c xs)],[(AzP,.box [x64,xs,xs])]⟩)])]⟩
def Agq:=JJ 72 [Sq7,Jy,Jy] [Jw] (A01 (Xv N)) [WB N,Akd N,mX N,Akm N,mY N] Ae9 Agp f72 N
def Agc:=JJ 6 [Sq5,Sq3] [Sq3] (A00 (Xq N)) [Ad6 N,Ld N] [] A08 f6 N (cc:=[5])
open Go.Proofs Go.Proofs.Tryz
def zK:A07:=[A05 3 [],A05 18 [2,3,15,16]]
def AbA:Lk:=⟨[],[(18,⟨[(2,.c AL),(3,.c AQ),(15,.i),(16,.c x64)],[(AzO,.box [Bi]),(AzP,.box [Bi])]⟩,[(0,⟨[],[]⟩)])]⟩
def AbB:=JJ 120 [Sq0,Sq0] [JM] (A00 (Rn N)) [AeP N] zK AbA f120 N
open Go.Proofs Go.Proofs.Tryz
def zO:A07:=[A05 3 [],A05 18 [9,10,11]]
def AbK:Lk:=⟨[],[(18,⟨[(9,.i),(10,.i),(11,.c x64)],[]⟩,[(0,⟨[],[]⟩)])]⟩
def dK:=JJ 111 [.cell false (.sl 156 Tq1)] [Jw] (Rq N) [Uz N] zO AbK f111 N
def oV:A07:=[A05 3 [],A05 26 [31,32,33]]
def sH:Lk:=⟨[],[(26,⟨[(31,.c (xo 40704)),(32,.i),(33,.c x64)],[(40704,.arr 156 false Tq1)]⟩,[(0,⟨[],[]⟩)])]⟩
def Yd:=JJ 112 [Alz] [Jw] (Nb N) [Uz N] oV sH f112 N
def Ye:=J8 263 [Sq9,JM] [Jy,Jw] (A00 (Pm N)) [Uz N,dJ N,LC N] f263 N
def AgF:=J8 95 [Jw,.cell false (.sl 150 Tq3)] [Jy,Jw] (A00 (fD N)) [kW N,Vd N] f95 N
def AcD:=J8 12 [Sq3] [JM] (RX N) [AjG N] f12 N
def Adg:=J8 51 [Sq0,Sq0] [JM] (A00 (V4 N)) [AbB N] f51 N
open Go.Proofs Go.Proofs.Tryz
def wV:A07:=[A05 3 [],A05 18 [10,11,12]]
def zM:Lk:=⟨[],[(18,⟨[(10,.i),(11,.i),(12,.c x64)],[]⟩,[(0,⟨[],[]⟩)])]⟩
def Zi:=JJ 113 [.cell false (.sl 158 Tq2)] [Jw] (MV N) [dK N,TA N] wV zM f113 N (bb:=[20,24,25,29,35,36])
def zI:A07:=[A05 3 [4],A05 30 [4,15,16,17]]
def Ab7:Lk:=⟨[],[(30,⟨[(4,.c xs),(15,.i),(16,.i),(17,.c x64)],[]⟩,[(0,⟨[(4,.c xs)],[]⟩)])]⟩
def VS:=JJ 170 [.cell false (.sl 156 Tq1)] [Jy,Jw] (PD N) [Ye N] zI Ab7 f170 N
def AkB:A07:=[A05 3 [0,6],A05 22 [0,6,14,15,16]]
def An8:Lk:=⟨[],[(22,⟨[(0,.i),(6,.c xs),(14,.i),(15,.i),(16,.c x64)],[]⟩,[(0,⟨[(0,.i),(6,.c xs)],[]⟩)])]⟩
def An9:=JJ 264 [Jw,.cell false (.sl 156 Tq1)] [Jy,Jw] (A00 (U1 N)) [Ye N,LC N,Vd N] AkB An8 f264 N
def AbI:=J8 13 [Sq3] [JM] (Ro N) [Adg N] f13 N
open Go.Proofs Go.Proofs.Tryz
def qF:A07:=[A05 3 [],A05 10 [6,7,8]]
def uH:Lk:=⟨[],[(10,⟨[(6,.i),(7,.i),(8,.c x64)],[]⟩,[(0,⟨[],[]⟩)])]⟩
def Yt:=JJ 102 [.cell false (.sl 156 Tq1)] [Jw] (PQ N) [eF N] qF uH f102 N
def AeV:A07:=[A05 3 [],A05 11 [32,33,34],A05 26 [32,33,34],A05 38 [32,33,34,38,39,40]]
def AgL:Lk:=⟨[],[(26,⟨[(32,.c (xo A0h)),(33,.i),(34,.c x64)],[(A0h,.arr 29 false (.sl 156 Tq1 .nil))]⟩,[(0,⟨[],[]⟩)]),(38,⟨[(32,.c (xo A0h)),(33,.i),(34,.i),(38,.i),(39,.i),(40,.c x64)],[(A0h,.arr 29 false (.sl 156 Tq1 .nil))]⟩,[(2,⟨[(32,.c (xo A0h)),(33,.i),(34,.i)],[(A0h,.arr 29 false (.sl 156 Tq1 .nil))]⟩)])]⟩
def nJ:=JJ 178 [Alz] [Jw] (UW N) [eF N] AeV AgL f178 N
def Z8:=J8 338 [Sq9,JM] [Jy,Jw] (A00 (PT N)) [eF N,OM N,qY N] f338 N
def fO:=J8 74 [AgV] [Sq7] (SA N) [Vp N,Abf N,zG N] f74 N
def Aoq:=J8 140 [WS] [Sq0,Jw] (Aak N) [ND N,Ahz N] f140 N
def Aj5:=J8 21 [Sq3,Sq7] [Jw] (A00 (Xc N)) [Agq N] f21 N
def AbE:A07:=[A05 3 [],A05 93 [1],A05 138 [1,134,135,136]]
def Adi:Lk:=⟨[(93,⟨[(1,.c AO)],[(AzQ,.box Bj)]⟩)],[(138,⟨[(1,.c AO),(134,.i),(135,.i),(136,.c x64)],[(AzQ,.box Bj)]⟩,[(0,⟨[],[]⟩)])]⟩
def gI:=JJ 49 [Sq2] [Jw] (Qo N) [AnC N,Adn N,sO N,dK N,Yd N,Zi N,AkF N,Rk N,AkI N,AbH N,yG N] AbE Adi f49 N (bb:=[17,21,22,26,30,31,36,41,42,47,48,53,54,58,59,63])
def oW:=J8 171 [Alz] [Jy,Jw] (OH N) [Yd N,An9 N,Vd N] f171 N
open Go.Proofs Go.Proofs.Tryz
def dY:=J8 103 [Sq2] [Jw] (OA N) [nJ N] f103 N
def qH:A07:=[A05 13 [1,4]]
def uI:Lk:=⟨[(13,⟨[(1,.c AO),(4,.c xb)],[(AzQ,.box [Bc,x64,xb,Bi])]⟩)],[]⟩
def uJ:=JJ 179 [Az7] [Jw] (RZ N) [Yt N,UK N] qH uI f179 N
def yX:A07:=[A05 3 [5],A05 26 [5,16,17,18]]
def AaD:Lk:=⟨[],[(26,⟨[(5,.c xs),(16,.i),(17,.i),(18,.c x64)],[]⟩,[(0,⟨[(5,.c xs)],[]⟩)])]⟩
def bY:=JJ 288 [.cell false (.sl 156 Tq1)] [Jy,Jw] (Py N) [AjM N,Z8 N] yX AaD f288 N
def tJ:A07:=[(3,⟨[0,6],[([6],9,Aq,AzL)],[],[(AzK,AzL)],[]⟩),(22,⟨[0,6,15,16,17],[([6],9,Aq,AzK)],[],[(A0g,AzK)],[]⟩)]
def xN:Lk:=⟨[],[(22,⟨[(0,.i),(6,.c (xo AzK)),(15,.i),(16,.i),(17,.c x64)],[(AzK,.arr 9 false Aq)]⟩,[(0,⟨[(0,.i),(6,.c (xo AzL))],[(AzL,.arr 9 false Aq)]⟩)])]⟩
def xO:=JJ 340 [Jw,.cell false (.sl 156 Tq1)] [Jy,Jw] (A00 (Ny N)) [Z8 N,OM N] tJ xN f340 N
def zD:A07:=[A05 3 [10],A05 42 [0,10,11,12]]
def Abc:Lk:=⟨[],[(42,⟨[(0,.c AP),(10,.c xs),(11,.c x64),(12,.c x64)],[(0,.box BA)]⟩,[(0,⟨[(10,.c xs)],[(0,.box BA)]⟩)])]⟩
def Abd:=JJ 133 [AgV,Jw,Jy] [Jy,Jw] (A01 (Uu N)) [Vp N,Ut N,fO N,mX N,ArW N,oN N] zD Abc f133 N (kk:=[(74,[(0,1),(0,2),(0,3)])])
def AdQ:=JJ 68 [Ayl,Jy] [Jw] (A00 (qB N)) [Afr N,Aj6 N,jJ N,Aoq N,Afq N,AqI N,Ahg N,Aeg N,WU N] [] A08 f68 N (aa:=[(136,TK N)]) (hA:=⟨X5 N,trivial⟩)
def zQ:=JJ 22 [AdL] [Sq7] (Q4 N) [UD N,fO N] [] A08 f22 N (kk:=[(74,[(0,1),(0,2),(0,3)])])
def gG:=JJ 11 [Sq3] [Jw] (Qm N) [TA N,kU N,gI N] [] A08 f11 N (bb:=[28,32,33,37,38,42,43,49])
open Go.Proofs Go.Proofs.Tryz
def Ado:=J8 265 [Sq0] [Jy] (V6 N) [VS N] f265 N
def Adp:=J8 266 [.cell false (.sl 156 Tq1)] [Jy] (SH N) [VS N,LC N] f266 N
open Go.Proofs Go.Proofs.Tryz
def sK:A07:=[A05 3 [5],A05 34 [5,17,18,19],A05 53 [5,7,8,17,18,19]]
def wW:Lk:=⟨[(53,⟨[(5,.i),(7,.c (.c (.ptr 34560 0))),(8,.c xs),(17,.i),(18,.i),(19,.i)],[(34560,.box [Bc,x64,xb,Bi])]⟩)],[(34,⟨[(5,.c xs),(17,.i),(18,.i),(19,.c x64)],[]⟩,[(0,⟨[(5,.c xs)],[]⟩)])]⟩
def wX:=JJ 172 [.cell false (.sl 158 Tq2)] [Jy,Jw] (MM N) [Zi N,Ado N,LC N,Adp N,yK N,Vd N] sK wW f172 N
open Go.Proofs Go.Proofs.Tryz
def nO:A07:=[A05 3 [],A05 18 [9,10,11]]
def qE:Lk:=⟨[],[(18,⟨[(9,.i),(10,.i),(11,.c x64)],[]⟩,[(0,⟨[],[]⟩)])]⟩
def XM:=JJ 104 [.cell false (.sl 158 Tq2)] [Jw] (LZ N) [uJ N] nO qE f104 N
def Aar:=J8 202 [.box [(false,.bool)],Sq2] [Jy] (A00 (Pq N)) [bY N,Lr N,LX N] f202 N
def AeW:=J8 290 [Alz] [Jy,Jw] (WN N) [nJ N,xO N,OM N] f290 N
def xI:=J8 64 [AdL,Jy] [Jy,Jw] (A00 (PX N)) [UD N,xH N,Abd N] f64 N
def zN:A07:=[A05 3 [1,5,7],A05 11 [1,5,10],A05 19 [1,5,13],A05 27 [1,5],A05 37 [1,5,6],(41,⟨[1,5],[([5],150,Tq3,AzK)],[],[(45312,AzK)],[]⟩),(49,⟨[1,5],[],[],[(47872,AzM),(AzK,AzM)],[]⟩),A05 62 [1,5,7,65,66,67],(81,⟨[1,5],[],[],[(53760,AzN),(AzM,AzN)],[]⟩),A05 94 [1,5,10,88,89,90],(113,⟨[1,5],[],[],[(60160,AzZ),(AzN,AzZ)],[]⟩),A05 126 [1,5,13,113,114,115],(145,⟨[1,5],[],[],[(67584,A0a),(AzZ,A0a)],[]⟩),A05 161 [1,5,16],A05 169 [1,5,16],(173,⟨[1,5],[],[],[(75008,A0k),(A0a,A0k)],[]⟩),(181,⟨[1,5],[],[],[(77568,A0l),(A0k,A0l)],[]⟩),(193,⟨[1,5],[],[],[(81920,A0m),(A0l,A0m)],[]⟩),(213,⟨[1,5],[],[],[(86016,A0n),(A0m,A0n)],[]⟩),(221,⟨[1,5],[],[],[(88832,A0o),(A0n,A0o)],[]⟩),(229,⟨[1,5],[],[],[(92160,A0b),(A0o,A0b)],[]⟩),(234,⟨[1,5,237,238,239],[],[],[(100096,A0b)],[]⟩)]
def AbF:Lk:=⟨[(37,⟨[(1,.c AO),(5,.c x0),(6,.c xs)],[(AzQ,.box Bj)]⟩),(41,⟨[(1,.c AO),(5,.c (xo AzK))],[(AzQ,.box Bj),(AzK,.arr 150 false Tq3)]⟩),(49,⟨[(1,.c AO),(5,.c (xo AzM))],[(AzQ,.box Bj),(AzM,.arr 150 false Tq3)]⟩),(81,⟨[(1,.c AO),(5,.c (xo AzN))],[(AzQ,.box Bj),(AzN,.arr 150 false Tq3)]⟩),(113,⟨[(1,.c AO),(5,.c (xo AzZ))],[(AzQ,.box Bj),(AzZ,.arr 150 false Tq3)]⟩),(145,⟨[(1,.c AO),(5,.c (xo A0a))],[(AzQ,.box Bj),(A0a,.arr 150 false Tq3)]⟩),(161,⟨[(1,.c AO),(5,.c (xo A0a)),(16,.c xs)],[(AzQ,.box Bj),(A0a,.arr 150 false Tq3)]⟩),(169,⟨[(1,.c AO),(5,.c (xo A0a)),(16,.c xs)],[(AzQ,.box Bj),(A0a,.arr 150 false Tq3)]⟩),(173,⟨[(1,.c AO),(5,.c (xo A0k))],[(AzQ,.box Bj),(A0k,.arr 150 false Tq3)]⟩),(181,⟨[(1,.c AO),(5,.c (xo A0l))],[(AzQ,.box Bj),(A0l,.arr 150 false Tq3)]⟩),(193,⟨[(1,.c AO),(5,.c (xo A0m))],[(AzQ,.box Bj),(A0m,.arr 150 false Tq3)]⟩),(213,⟨[(1,.c AO),(5,.c (xo A0n))],[(AzQ,.box Bj),(A0n,.arr 150 false Tq3)]⟩),(221,⟨[(1,.c AO),(5,.c (xo A0o))],[(AzQ,.box Bj),(A0o,.arr 150 false Tq3)]⟩),(229,⟨[(1,.c AO),(5,.c (xo A0b))],[(AzQ,.box Bj),(A0b,.arr 150 false Tq3)]⟩)],[(62,⟨[(1,.c AO),(5,.c (xo AzM)),(7,.c xs),(65,.i),(66,.i),(67,.c x64)],[(AzQ,.box Bj),(AzM,.arr 150 false Tq3)]⟩,[(0,⟨[(1,.c AO),(5,.c (xo AzM)),(7,.c xs)],[(AzQ,.box Bj),(AzM,.arr 150 false Tq3)]⟩)]),(94,⟨[(1,.c AO),(5,.c (xo AzN)),(10,.c xs),(88,.i),(89,.i),(90,.c x64)],[(AzQ,.box Bj),(AzN,.arr 150 false Tq3)]⟩,[(2,⟨[(1,.c AO),(5,.c (xo AzN)),(10,.c xs)],[(AzQ,.box Bj),(AzN,.arr 150 false Tq3)]⟩)]),(126,⟨[(1,.c AO),(5,.c (xo AzZ)),(13,.c xs),(113,.i),(114,.i),(115,.c x64)],[(AzQ,.box Bj),(AzZ,.arr 150 false Tq3)]⟩,[(4,⟨[(1,.c AO),(5,.c (xo AzZ)),(13,.c xs)],[(AzQ,.box Bj),(AzZ,.arr 150 false Tq3)]⟩)]),(234,⟨[(1,.c AO),(5,.c (xo A0b)),(237,.c (xo 93440)),(238,.i),(239,.c x64)],[(AzQ,.box Bj),(93440,.arr 32 false (.sl 158 Tq2 .nil)),(A0b,.arr 150 false Tq3)]⟩,[(6,⟨[(1,.c AO),(5,.c (xo A0b))],[(AzQ,.box Bj),(A0b,.arr 150 false Tq3)]⟩)])]⟩
def AbG:=JJ 94 [Sq2] [.cell false (.sl 150 Tq3),Jw] (UB N) [gI N,AgE N,sQ N,LC N,yK N,aS N,VS N,oW N,wX N] zN AbF f94 N
open Go.Proofs Go.Proofs.Tryz
def AdS:A07:=[A05 3 [1,10],A05 130 [1,10,120,121,122]]
def Afs:Lk:=⟨[],[(130,⟨[(1,.c AO),(10,.c x64),(120,.i),(121,.i),(122,.c x64)],[(AzQ,.box Bj)]⟩,[(0,⟨[(1,.c AO),(10,.c x64)],[(AzQ,.box Bj)]⟩)])]⟩
def mG:=JJ 46 [Sq2] [Jw] (RG N) [Ahj N,Aao N,lI N,Yt N,dY N,XM N,Zx N,nS N] AdS Afs f46 N (dd:=[(127,Aa2 N)]) (bb:=[15,19,20,24,28,29,34,39,40,45,46,51,52,56,57,61]) (hD:=⟨Af4 N,trivial⟩)
def jM:=J8 205 [.box [(false,.bool)],Sq2] [Jy] (A00 (NU N)) [AeW N,Lr N] f205 N
def lG:A07:=[(3,⟨[5,6],[([6],9,Aq,AzS)],[],[(AzK,AzS)],[]⟩),(38,⟨[5,6,22,23,24],[([6],9,Aq,AzK)],[],[(54272,AzK)],[]⟩),(57,⟨[5,6,8,9,22,23,24],[([6],9,Aq,AzL)],[],[(AzK,AzL)],[]⟩),(65,⟨[5,6,8,9,22,23,24],[([6],9,Aq,AzM)],[],[(AzL,AzM)],[]⟩),(77,⟨[5,6,9,22,23,24],[([6],9,Aq,AzN)],[],[(AzM,AzN)],[]⟩)]
def nP:Lk:=⟨[(57,⟨[(5,.c AZ),(6,.c (xo AzL)),(8,.c AY),(9,.c (xo 39936)),(22,.i),(23,.i),(24,.i)],[(AzW,.box [Bc,x64,xb,Bi]),(38144,.box [xb]),(39936,.arr 9 false Aq),(AzL,.arr 9 false Aq)]⟩),(65,⟨[(5,.c AZ),(6,.c (xo AzM)),(8,.c AY),(9,.c (xo 39936)),(22,.i),(23,.i),(24,.i)],[(AzW,.box [Bc,x64,xb,Bi]),(38144,.box [xb]),(39936,.arr 9 false Aq),(AzM,.arr 9 false Aq)]⟩),(77,⟨[(5,.c AZ),(6,.c (xo AzN)),(9,.c (xo 39936)),(22,.i),(23,.i),(24,.i)],[(38144,.box [xb]),(39936,.arr 9 false Aq),(AzN,.arr 9 false Aq)]⟩)],[(38,⟨[(5,.c AZ),(6,.c (xo AzK)),(22,.i),(23,.i),(24,.c x64)],[(38144,.box [xb]),(AzK,.arr 9 false Aq)]⟩,[(0,⟨[(5,.c AZ),(6,.c (xo AzS))],[(38144,.box [xb]),(AzS,.arr 9 false Aq)]⟩)])]⟩
def Xd:=JJ 293 [.cell false (.sl 158 Tq2)] [Jy,Jw] (O9 N) [XM N,bY N,Lr N,Le N,nD N,Z8 N,LX N,⟨76,X7 N,Vj N⟩] lG nP f293 N
def AbM:=J8 38 [Jw,Sq2] [Jy,Jw] (A00 (PG N)) [AbG N,AgF N] f38 N
open Go.Proofs Go.Proofs.Tryz
def LQ:Sig:=.of [Sq3] [Jw] (RV N)
def Yp:bH 10 (LQ N):=mM (mJ (ksp [UK N,Aor N,WB N,mG N]) []) A08 f10 N (NC (Qh _))
def yU:=J8 214 [.box [(false,.bool)],Sq2] [Jy] (A00 (Q3 N)) [Xd N,Lr N] f214 N
def qI:=J8 217 [.box [(false,.bool)],Sq2] [Jy] (A00 (OZ N)) [Xd N,Lr N] f217 N
def sJ:=J8 9 [Sq3] [Jy,Jw] (Ru N) [gG N,dJ N,Abz N,Adj N,AbM N,sQ N,LC N,gB N,Vd N] f9 N
open Go.Proofs Go.Proofs.Tryz
def AiG (N n:Nat):Sig:=.of [.box [(false,.bool)],Sq2] [.cell false .str] (Ahv N n)
def AqU (N:Nat):ZW Tryz.prog (AiG N):=qX (Ju:=[.box [(false,.bool)],Sq2]) (JB:=[.cell false .str]) (l:=[(181,fun a=>Pn N a.1 a.2),(184,fun a=>Pv N a.1 a.2),(187,fun a=>NQ N a.1 a.2),(190,fun a=>NP N a.1 a.2),(193,fun a=>NM N a.1 a.2),(196,fun a=>OO N a.1 a.2),(199,fun a=>Oi N a.1 a.2),(202,fun a=>Pq N a.1 a.2),(205,fun a=>NU N a.1 a.2),(208,fun a=>Oj N a.1 a.2),(211,fun a=>Nz N a.1 a.2),(214,fun a=>Q3 N a.1 a.2),(217,fun a=>OZ N a.1 a.2)]) ⟨(Aaq N).h,(Aas N).h,(qO N).h,(qM N).h,(qK N).h,(yT N).h,(uK N).h,(Aar N).h,(jM N).h,(uN N).h,(nT N).h,(yU N).h,(qI N).h,trivial⟩
def Aj4:=JJ 20 [Jy] [Sq3,Jw] (Xb N) [ND N,AdQ N,jJ N,AdR N,WU N,⟨10,LQ N,Yp N⟩] [] A08 f20 N (aa:=[(66,uS N)]) (hA:=⟨AlT N,trivial⟩)
open Go.Proofs Go.Proofs.Tryz
def AcG:A07:=[(3,⟨[1,5,6],[([6],150,Tq3,AzL)],[],[(AzK,AzL)],[]⟩),(30,⟨[1,5,6,16,17,18],[([6],150,Tq3,AzK)],[],[(44032,AzK)],[]⟩)]
def AdT:Lk:=⟨[],[(30,⟨[(1,.c AO),(5,.c (.c (.ptr 36608 0))),(6,.c (xo AzK)),(16,.i),(17,.i),(18,.c x64)],[(AzQ,.box Bj),(36608,.box [xb]),(AzK,.arr 150 false Tq3)]⟩,[(0,⟨[(1,.c AO),(5,.c (.c (.ptr 36608 0))),(6,.c (xo AzL))],[(AzQ,.box Bj),(36608,.box [xb]),(AzL,.arr 150 false Tq3)]⟩)])]⟩
def AdU:=JJ 86 [Sq2] [.cell false (.sl 150 Tq3),Jw] (Wp N) [mG N,Zx N,⟨76,X7 N,Vj N⟩] AcG AdT f86 N (dd:=[(23,Aa2 N),(38,AiG N)]) (hD:=⟨Af4 N,AqU N,trivial⟩)
open Go.Proofs Go.Proofs.Tryz
def AcE:=J8 34 [.box [(false,.bool)],Sq2] [Jy] (A00 (Qb N)) [AdU N,Lr N,Amk N,Le N] f34 N
open Go.Proofs Go.Proofs.Tryz
def O8:Sig:=.of [.box [(false,.bool)],Ayl] [Jy] (A00 (RY N))
def Afp:bH 25 (O8 N):=mM (mJ (ksp [X8 N,Le N,Vl N,qY N,Lr N,AjD N,LX N,Aew N,AcE N]) []) A08 f25 N (NC (Qh _))
end
end Go.Proofs.YtdihmdelaolelaaGreatDoor.Vm
