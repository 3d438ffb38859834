import Derived.Test.YtacidcemomccpaaGreatDoorA14
import Derived.Test.YtacidcemomccpaaGreatDoorA15
set_option linter.all false
namespace Go.Proofs.YtacidcemomccpaaGreatDoor.Vm
noncomputable section
variable (N:Nat)
open Go.Proofs Go.Proofs.Tryz
def Ah0:A0n:=[A0l 3 [0,1,13],(46,⟨[0,1,3,11,13,14],[([13],9,Aq,Azs)],[],[(46336,Azs)],[]⟩)]
def AjB:Lk:=⟨[],[(46,⟨[(0,.i),(1,.i),(3,.i),(11,.i),(13,.c (xo Azs)),(14,.c x64)],[(Azs,.arr 9 false Aq)]⟩,[(0,⟨[(0,.i),(1,.i),(13,.c (xo Azs))],[(Azs,.arr 9 false Aq)]⟩)])]⟩
def AjC:=JO 106 [Jw,Jz,Jw,Jw] [Jw,Jz] (λa=>Vf N a.1 a.2.1 a.2.2.1 a.2.2.2) [mF N,AaT N,vV N,AaU N] Ah0 AjB f106 N
def oO (N:Nat):Alt:=.of [.cell false .str,.cell false (.int .i64),.cell false (.int .i64)] [Adw,.cell false (.int .i64)] [.cell false .ptr,.cell false (.int .i64)] (λa=>Ab9 N a.1 a.2.1 a.2.2)
def Akh (N:Nat):Spec Tryz.prog 49 (oO N).1/\Spec Tryz.prog 49 (oO N).2.1:=Yf (C:=ctx Tryz.prog (ksp [Uz N]) [] [(113,WT N)]) (L:=⟨[],[]⟩) (fn:=f49) (N:=N) (MB (Oe _) ⟨yN N,trivial⟩) (by kernel_rfl) (by kernel_rfl) (λa=>by kernel_rfl)
def AgT:A0n:=[A0l 3 [],A0l 18 [11,12,13]]
def Ajh:Lk:=⟨[],[(18,⟨[(11,.i),(12,.i),(13,.c x64)],[]⟩,[(0,⟨[],[]⟩)])]⟩
def UN:=JO 37 [Sq0] [Jz] (O8 N) [qN N] AgT Ajh f37 N
def AjA:A0n:=[A0l 3 [0,2,9],(26,⟨[0,1,2,9,10],[([9],9,Aq,Azs)],[],[(AzD,Azs)],[]⟩)]
def Amt:Lk:=⟨[],[(26,⟨[(0,.i),(1,.i),(2,.i),(9,.c (xo Azs)),(10,.c x64)],[(Azs,.arr 9 false Aq)]⟩,[(0,⟨[(0,.i),(2,.i),(9,.c (xo Azs))],[(Azs,.arr 9 false Aq)]⟩)])]⟩
def Amu:=JO 228 [Jw,Jw,Jz] [Jw,Jz] (λa=>fZ N a.1 a.2.1 a.2.2) [mG N,AaV N,vV N,AaU N] AjA Amt f228 N
def AnZ:A0n:=[A0l 3 [13],(38,⟨[0,1,2,11,13,14],[([13],9,Aq,Azs)],[],[(45056,Azs)],[]⟩)]
def AqY:Lk:=⟨[],[(38,⟨[(0,.i),(1,.i),(2,.i),(11,.i),(13,.c (xo Azs)),(14,.c x64)],[(Azs,.arr 9 false Aq)]⟩,[(0,⟨[(13,.c (xo Azs))],[(Azs,.arr 9 false Aq)]⟩)])]⟩
def AqZ:=JO 213 [Jw,Jw,Jz,Jw] [Jw,Jz] (λa=>vU N a.1 a.2.1 a.2.2.1 a.2.2.2) [mG N,AaT N,AaV N,vV N,AfU N] AnZ AqY f213 N
def AgL:=JB 53 [Jw,Jw] [Jw,Jz] (λa=>VC N a.1 a.2) [⟨118,AcX N,AgF N⟩] f53 N
def bK:=JB 19 [Sq5] [Sq3] (MW N) [o7 N,AqD N,AnO N] f19 N
def Ac2:A0n:=[A0l 3 [2,4,7,8],A0l 50 [2,4,7,8,35,36,37]]
def AdV:Lk:=⟨[],[(50,⟨[(2,.c AP),(4,.c AU),(7,.c (xl Tq5)),(8,.c AY),(35,.c (xo 41728)),(36,.i),(37,.c x64)],[(Azw,.box Bv),(Az0,.box Bv),(AzE,.box BD),(41728,.arr 277 false (.fn .nil))]⟩,[(0,⟨[(2,.c AP),(4,.c AU),(7,.c (xl Tq5)),(8,.c AY)],[(Azw,.box Bv),(Az0,.box Bv),(AzE,.box BD)]⟩)])]⟩
def AdW:=JO 223 [Jw] [Sq6,Jz] (qV N) [mX N,WL N] Ac2 AdV f223 N (dd:=[(45,Aiu N)]) (hD:=⟨ApY N,trivial⟩)
open Go.Proofs Go.Proofs.Tryz
def Aek:A0n:=[A0l 3 [3,10],A0l 58 [3,10,12,13,14],A0l 61 [3,10,12,13,14]]
def AfL:Lk:=⟨[(61,⟨[(3,.c AQ),(10,.c xs),(12,.i),(13,.i),(14,.i)],[(Azy,.box BD)]⟩)],[(58,⟨[(3,.c AQ),(10,.c xs),(12,.i),(13,.c x64),(14,.c x64)],[(Azy,.box BD)]⟩,[(0,⟨[(3,.c AQ),(10,.c xs)],[(Azy,.box BD)]⟩)])]⟩
def AfM:=JO 43 [Sq6,Jw,Jw] [Jz] (λa=>RU N a.1 a.2.1 a.2.2) [Wx N,Aj3 N,lZ N,AjC N,mD N] Aek AfL f43 N
def kM (N:Nat):Alt:=.of [.cell false .str,.cell false (.int .i64)] [Adw,.cell false (.int .i64)] [.cell false .ptr,.cell false (.int .i64)] (λa=>YQ N a.1 a.2)
def AhU (N:Nat):Spec Tryz.prog 16 (kM N).1/\Spec Tryz.prog 16 (kM N).2.1:=Yf (C:=ctx Tryz.prog (ksp []) [] [(49,oO N)]) (L:=⟨[],[]⟩) (fn:=f16) (N:=N) (MB (Oe _) ⟨Akh N,trivial⟩) (by kernel_rfl) (by kernel_rfl) (λa=>by kernel_rfl)
def dI:=JB 194 [Ag5,JQ] [Jz] (λa=>Vb N a.1 a.2) [Aqq N,UN N,Aav N] f194 N
def Afh:A0n:=[(3,⟨[5],[([5],9,Aq,Azv)],[],[(Azs,Azv)],[]⟩),(11,⟨[5,8,21,22,23],[([8],9,Aq,Azu),([5],9,Aq,AzA)],[],[(Azt,Azu),(Az1,AzA)],[]⟩),(26,⟨[5,21,22,23],[([5],9,Aq,Azs)],[],[(47872,Azs)],[]⟩),(42,⟨[5,8,21,22,23,27,28,29],[([8],9,Aq,Azt),([5],9,Aq,Az1)],[],[(44032,Azt),(Azs,Az1)],[]⟩)]
def AgW:Lk:=⟨[],[(26,⟨[(5,.c (xo Azs)),(21,.i),(22,.i),(23,.c x64)],[(Azs,.arr 9 false Aq)]⟩,[(0,⟨[(5,.c (xo Azv))],[(Azv,.arr 9 false Aq)]⟩)]),(42,⟨[(5,.c (xo Az1)),(8,.c (xo Azt)),(21,.i),(22,.i),(23,.i),(27,.i),(28,.i),(29,.c x64)],[(Azt,.arr 9 false Aq),(Az1,.arr 9 false Aq)]⟩,[(2,⟨[(5,.c (xo AzA)),(8,.c (xo Azu)),(21,.i),(22,.i),(23,.i)],[(Azu,.arr 9 false Aq),(AzA,.arr 9 false Aq)]⟩)])]⟩
def qL:=JO 29 [Sq0] [Jw,Jz] (TM N) [UN N,kZ N,⟨72,oV N,AhY N⟩,PW N] Afh AgW f29 N
def yP:A0n:=[(3,⟨[0,2],[([2],9,Aq,Azt)],[],[(Azs,Azt)],[]⟩),(11,⟨[],[],[],[(44032,Az9),(Azu,Az9)],[]⟩),(14,⟨[0,2,3],[([2],9,Aq,Azs)],[],[(AzF,Azs)],[]⟩),(19,⟨[0,6,7],[([7],9,Aq,Azz)],[],[(44032,1016400),(Azv,Azz),(AzH,1016400)],[]⟩),(38,⟨[0,2,6],[],[],[(44032,Azu),(56576,Azu),(Azz,Azt)],[]⟩),(54,⟨[0,2,6,7,8],[([7],9,Aq,Azv)],[],[(44032,AzH),(54016,Azv),(Azu,AzH)],[]⟩)]
def AaK:Lk:=⟨[],[(14,⟨[(0,.c AO),(2,.c (xo Azs)),(3,.c x64)],[(0,.box Bz),(Azs,.arr 9 false Aq)]⟩,[(0,⟨[(0,.c AO),(2,.c (xo Azt))],[(0,.box Bz),(Azt,.arr 9 false Aq)]⟩)]),(38,⟨[(0,.c AO),(2,.c (xo Azt)),(6,.c x64)],[(0,.box [(xo Azu),xs,xs,x64]),(Azt,.arr 9 true Aq),(Azu,.arr 27 false (.sl 9 Aq .nil))]⟩,[(2,⟨[],[(0,.box [(xo Az9),xs,xs,x64]),(Az9,.arr 27 false (.sl 9 Aq .nil))]⟩)]),(54,⟨[(0,.c AO),(2,.c (xo Azt)),(6,.i),(7,.c (xo Azv)),(8,.c x64)],[(0,.box [(xo AzH),xs,xs,x64]),(Azt,.arr 9 true Aq),(Azv,.arr 9 false Aq),(AzH,.arr 27 false (.sl 9 Aq .nil))]⟩,[(4,⟨[(0,.c AO),(6,.i),(7,.c (xo Azz))],[(0,.box [(xo 1016400),xs,xs,x64]),(Azz,.arr 9 false Aq),(1016400,.arr 27 false (.sl 9 Aq .nil))]⟩)])]⟩
def AaL:=JO 137 [Ag4] [] (Oj N) [Amu N,mD N] yP AaK f137 N
def Afg:A0n:=[(3,⟨[2,4,8],[],[],[(34817,Azt),(Azs,Azt)],[]⟩),(50,⟨[2,4,8,37,38,39],[],[],[(34817,Azs),(47104,Azs)],[]⟩)]
def AgU:Lk:=⟨[],[(50,⟨[(2,.c AP),(4,.c AU),(8,.c AY),(37,.i),(38,.i),(39,.c x64)],[(Azw,.box BC),(AzB,.Lr 82 false Az),(Az0,.box [(xo 33793)]),(33793,.Lr 82 false Az),(AzE,.box [(xo Azs)]),(Azs,.arr 82 false Az)]⟩,[(0,⟨[(2,.c AP),(4,.c AU),(8,.c AY)],[(Azw,.box BC),(AzB,.Lr 82 false Az),(Az0,.box [(xo 33793)]),(33793,.Lr 82 false Az),(AzE,.box [(xo Azt)]),(Azt,.arr 82 false Az)]⟩)])]⟩
def AgV:=JO 222 [Jw] [Sq0,Jz] (Aal N) [mX N,WL N,nT N,UN N] Afg AgU f222 N
def qH (N:Nat):Yd Tryz.prog 131 true (.of [mY,Xy] [.cell false (.int .i64)] (λa=>Vo N a.1 a.2)):=Qh (C:=ctx Tryz.prog (ksp [QC N,AdW N]) []) (L:=⟨[],[]⟩) (fn:=f131) (N:=N) (MB (Oe _)) (by kernel_rfl) (by kernel_rfl) (λa=>by kernel_rfl)
def Af9:=JB 6 [Sq5,Sq3] [Sq3] (λa=>Xo N a.1 a.2) [bK N,LD N] f6 N
open Go.Proofs Go.Proofs.Tryz
def wI:A0n:=[A0l 3 [],A0l 18 [10,11,12]]
def yV:Lk:=⟨[],[(18,⟨[(10,.i),(11,.i),(12,.c x64)],[]⟩,[(0,⟨[],[]⟩)])]⟩
def YZ:=JO 99 [.cell false (.sl 148 Tq2)] [Jz] (Na N) [bZ N,TA N] wI yV f99 N (bb:=[20,24,25,29,35,36])
def yS:A0n:=[A0l 3 [4],A0l 30 [4,15,16,17]]
def Abm:Lk:=⟨[],[(30,⟨[(4,.c xs),(15,.i),(16,.i),(17,.c x64)],[]⟩,[(0,⟨[(4,.c xs)],[]⟩)])]⟩
def VR:=JO 189 [.cell false (.sl 146 Tq1)] [Jw,Jz] (PM N) [XW N] yS Abm f189 N
def AjW:A0n:=[A0l 3 [0,6],A0l 22 [0,6,14,15,16]]
def AmK:Lk:=⟨[],[(22,⟨[(0,.i),(6,.c xs),(14,.i),(15,.i),(16,.c x64)],[]⟩,[(0,⟨[(0,.i),(6,.c xs)],[]⟩)])]⟩
def AmL:=JO 259 [Jz,.cell false (.sl 146 Tq1)] [Jw,Jz] (λa=>UD N a.1 a.2) [XW N,LV N,Vh N] AjW AmK f259 N
open Go.Proofs Go.Proofs.Tryz
def iY:=JB 12 [Sq3] [Jz] (JZ N) [AfM N] f12 N
def pR:A0n:=[A0l 3 [],A0l 10 [6,7,8]]
def tN:Lk:=⟨[],[(10,⟨[(6,.i),(7,.i),(8,.c x64)],[]⟩,[(0,⟨[],[]⟩)])]⟩
def Yi:=JO 89 [.cell false (.sl 146 Tq1)] [Jz] (PY N) [dI N] pR tN f89 N
def Ae5:A0n:=[A0l 3 [],A0l 11 [32,33,34],A0l 26 [32,33,34],A0l 38 [32,33,34,38,39,40]]
def Agu:Lk:=⟨[],[(26,⟨[(32,.c (xo AzD)),(33,.i),(34,.c x64)],[(AzD,.arr 29 false (.sl 146 Tq1 .nil))]⟩,[(0,⟨[],[]⟩)]),(38,⟨[(32,.c (xo AzD)),(33,.i),(34,.i),(38,.i),(39,.i),(40,.c x64)],[(AzD,.arr 29 false (.sl 146 Tq1 .nil))]⟩,[(2,⟨[(32,.c (xo AzD)),(33,.i),(34,.i)],[(AzD,.arr 29 false (.sl 146 Tq1 .nil))]⟩)])]⟩
def mQ:=JO 195 [AkM] [Jz] (UX N) [dI N] Ae5 Agu f195 N
def Z4:=JB 301 [Ag5,JQ] [Jw,Jz] (λa=>Qb N a.1 a.2) [dI N,PW N,qL N] f301 N
def eF:=JB 65 [Ag4] [Sq6] (SB N) [Vr N,AaL N,yQ N] f65 N
def fH (N:Nat):Yd Tryz.prog 130 true (.of [mY,Xy] [.cell false (.int .i64)] (λa=>RG N a.1 a.2)):=Qh (C:=ctx Tryz.prog (ksp [QC N,AgV N]) []) (L:=⟨[],[]⟩) (fn:=f130) (N:=N) (MB (Oe _)) (by kernel_rfl) (by kernel_rfl) (λa=>by kernel_rfl)
def Abs:A0n:=[A0l 3 [],A0l 93 [1],A0l 138 [1,134,135,136]]
def AcI:Lk:=⟨[(93,⟨[(1,.c AB)],[(Azx,.box Bi)]⟩)],[(138,⟨[(1,.c AB),(134,.i),(135,.i),(136,.c x64)],[(Azx,.box Bi)]⟩,[(0,⟨[],[]⟩)])]⟩
def eU:=JO 42 [Sq2] [Jz] (Qu N) [AmR N,AcN N,rW N,bZ N,XV N,YZ N,Akb N,Rq N,Ake N,Abw N,xR N] Abs AcI f42 N (bb:=[17,21,22,26,30,31,36,41,42,47,48,53,54,58,59,63])
def oL:=JB 190 [AkM] [Jw,Jz] (OQ N) [XV N,AmL N,Vh N] f190 N
open Go.Proofs Go.Proofs.Tryz
def AcO:=JB 260 [Sq0] [Jw] (V6 N) [VR N] f260 N
def AcP:=JB 261 [.cell false (.sl 146 Tq1)] [Jw] (SH N) [VR N,LV N] f261 N
open Go.Proofs Go.Proofs.Tryz
def VS:=JB 11 [Sq3] [Jz] (Ob N) [TA N,XC N,eU N] f11 N
def rU:A0n:=[A0l 3 [5],A0l 34 [5,17,18,19],A0l 53 [5,7,8,17,18,19]]
def wJ:Lk:=⟨[(53,⟨[(5,.i),(7,.c (.c (.ptr 34560 0))),(8,.c xs),(17,.i),(18,.i),(19,.i)],[(34560,.box BF)]⟩)],[(34,⟨[(5,.c xs),(17,.i),(18,.i),(19,.c x64)],[]⟩,[(0,⟨[(5,.c xs)],[]⟩)])]⟩
def wK:=JO 191 [.cell false (.sl 148 Tq2)] [Jw,Jz] (MP N) [YZ N,AcO N,LV N,AcP N,xZ N,Vh N] rU wJ f191 N
open Go.Proofs Go.Proofs.Tryz
def dH:=JB 90 [Sq2] [Jz] (OD N) [mQ N] f90 N
def pV:A0n:=[A0l 13 [1,4]]
def tV:Lk:=⟨[(13,⟨[(1,.c AB),(4,.c xb)],[(Azx,.box BF)]⟩)],[]⟩
def tX:=JO 196 [AyX] [Jz] (Sm N) [Yi N,UN N] pV tV f196 N
def yI:A0n:=[A0l 3 [5],A0l 26 [5,16,17,18]]
def Aau:Lk:=⟨[],[(26,⟨[(5,.c xs),(16,.i),(17,.i),(18,.c x64)],[]⟩,[(0,⟨[(5,.c xs)],[]⟩)])]⟩
def bD:=JO 241 [.cell false (.sl 146 Tq1)] [Jw,Jz] (PH N) [Ajm N,Z4 N] yI Aau f241 N
def sH:A0n:=[(3,⟨[0,6],[([6],9,Aq,Azt)],[],[(Azs,Azt)],[]⟩),(22,⟨[0,6,15,16,17],[([6],9,Aq,Azs)],[],[(AzF,Azs)],[]⟩)]
def xA:Lk:=⟨[],[(22,⟨[(0,.i),(6,.c (xo Azs)),(15,.i),(16,.i),(17,.c x64)],[(Azs,.arr 9 false Aq)]⟩,[(0,⟨[(0,.i),(6,.c (xo Azt))],[(Azt,.arr 9 false Aq)]⟩)])]⟩
def xB:=JO 303 [Jz,.cell false (.sl 146 Tq1)] [Jw,Jz] (λa=>N9 N a.1 a.2) [Z4 N,PW N] sH xA f303 N
def Zb:=JO 21 [Adw] [Sq6] (Me N) [UI N,eF N] [] A0o f21 N (kk:=[(65,[(0,1),(0,2),(0,3)])])
def yO:A0n:=[A0l 3 [10],A0l 42 [0,10,11,12]]
def AaI:Lk:=⟨[],[(42,⟨[(0,.c AO),(10,.c xs),(11,.c x64),(12,.c x64)],[(0,.box Bz)]⟩,[(0,⟨[(10,.c xs)],[(0,.box Bz)]⟩)])]⟩
def AaJ:=JO 117 [Ag4,Jz,Jw] [Jw,Jz] (λa=>U0 N a.1 a.2.1 a.2.2) [Vr N,Uz N,eF N,lZ N,AqZ N,oC N] yO AaI f117 N (kk:=[(65,[(0,1),(0,2),(0,3)])])
def jA:Sig:=.of [mY,Xy] [Jz] (λa=>qG N a.1 a.2)
def AdE (N:Nat):pF Tryz.prog 59 [(129,true),(130,true),(131,true),(132,true),(63,false)] (jA N):=AoL (k0:=[(false,.str),(false,.str),(false,(.sl 82 (.sl 84 Tq0 .nil))),(false,(.int .i64)),(false,.str),(false,.str),(false,.bool),(false,.bool),(false,(.int .i64)),(false,(.int .i64)),(false,(.sl 9 (.str .nil))),(false,(.sl 9 (.str .nil))),(false,(.sl 88 (.str (.str .nil)))),(false,(.int .i64)),(false,(.int .i64)),(false,(.int .i64)),(false,(.sl 146 Tq1)),(false,.bool),(false,(.sl 146 Tq1)),(false,(.sl 146 Tq1)),(false,.str),(false,.str),(false,(.sl 148 Tq2)),(false,(.sl 148 Tq2)),(false,(.sl 118 Tq3)),(false,.str)]) (k1:=[(false,(.sl 164 Tq5))]) (λa=>by kernel_rfl) [((129,true),λa=>RH N a.1 a.2),((130,true),λa=>RG N a.1 a.2),((131,true),λa=>Vo N a.1 a.2),((132,true),λa=>Qz N a.1 a.2),((63,false),λa=>QB N a.1 a.2)] ⟨fJ N,fH N,qH N,Zq N,YW N,trivial⟩
def Qv:=JO 21 [.cell false .ptr] [Sq6] (Vs N) [] [] A0o f21 N (zz:=[(64,0,(Xj N).S)]) (hZ:=⟨(Xj N).h,trivial⟩)
open Go.Proofs Go.Proofs.Tryz
def nG:A0n:=[A0l 3 [],A0l 18 [9,10,11]]
def pO:Lk:=⟨[],[(18,⟨[(9,.i),(10,.i),(11,.c x64)],[]⟩,[(0,⟨[],[]⟩)])]⟩
def XH:=JO 91 [.cell false (.sl 148 Tq2)] [Jz] (Md N) [tX N] nG pO f91 N
def zY:=JB 161 [.box [(false,.bool)],Sq2] [Jw] (λa=>PD N a.1 a.2) [bD N,LJ N,LX N] f161 N
def Ae6:=JB 243 [AkM] [Jw,Jz] (WJ N) [mQ N,xB N,PW N] f243 N
def wW:=JB 52 [Adw,Jw] [Jw,Jz] (λa=>Qg N a.1 a.2) [UI N,wV N,AaJ N] f52 N
def nP (N:Nat):Yd Tryz.prog 60 true (.of [mY,Xy] [.cell false (.int .i64)] (λa=>Um N a.1 a.2)):=Qh (C:=ctx Tryz.prog (ksp [QC N]) [] (aa:=[(127,Wn N)]) (ee:=[((59,[(129,true),(130,true),(131,true),(132,true),(63,false)]),jA N)])) (L:=⟨[],[]⟩) (fn:=f60) (N:=N) (MB (Oe _) (hA:=⟨jF N,trivial⟩) (hE:=⟨AdE N,trivial⟩)) (by kernel_rfl) (by kernel_rfl) (λa=>by kernel_rfl)
def yX:A0n:=[A0l 3 [1,5,7],A0l 11 [1,5,10],A0l 19 [1,5,13],A0l 27 [1,5],A0l 37 [1,5,6],(41,⟨[1,5],[([5],118,Tq3,Azs)],[],[(45312,Azs)],[]⟩),(49,⟨[1,5],[],[],[(47872,Azu),(Azs,Azu)],[]⟩),A0l 62 [1,5,7,65,66,67],(81,⟨[1,5],[],[],[(53760,Azv),(Azu,Azv)],[]⟩),A0l 94 [1,5,10,88,89,90],(113,⟨[1,5],[],[],[(60160,Az6),(Azv,Az6)],[]⟩),A0l 126 [1,5,13,113,114,115],(145,⟨[1,5],[],[],[(67584,Az7),(Az6,Az7)],[]⟩),A0l 161 [1,5,16],A0l 169 [1,5,16],(173,⟨[1,5],[],[],[(75008,AzI),(Az7,AzI)],[]⟩),(181,⟨[1,5],[],[],[(77568,AzJ),(AzI,AzJ)],[]⟩),(193,⟨[1,5],[],[],[(81920,AzK),(AzJ,AzK)],[]⟩),(213,⟨[1,5],[],[],[(86016,AzL),(AzK,AzL)],[]⟩),(221,⟨[1,5],[],[],[(88832,AzM),(AzL,AzM)],[]⟩),(229,⟨[1,5],[],[],[(92160,Az8),(AzM,Az8)],[]⟩),(234,⟨[1,5,237,238,239],[],[],[(100096,Az8)],[]⟩)]
def Abu:Lk:=⟨[(37,⟨[(1,.c AB),(5,.c x0),(6,.c xs)],[(Azx,.box Bi)]⟩),(41,⟨[(1,.c AB),(5,.c (xo Azs))],[(Azx,.box Bi),(Azs,.arr 118 false Tq3)]⟩),(49,⟨[(1,.c AB),(5,.c (xo Azu))],[(Azx,.box Bi),(Azu,.arr 118 false Tq3)]⟩),(81,⟨[(1,.c AB),(5,.c (xo Azv))],[(Azx,.box Bi),(Azv,.arr 118 false Tq3)]⟩),(113,⟨[(1,.c AB),(5,.c (xo Az6))],[(Azx,.box Bi),(Az6,.arr 118 false Tq3)]⟩),(145,⟨[(1,.c AB),(5,.c (xo Az7))],[(Azx,.box Bi),(Az7,.arr 118 false Tq3)]⟩),(161,⟨[(1,.c AB),(5,.c (xo Az7)),(16,.c xs)],[(Azx,.box Bi),(Az7,.arr 118 false Tq3)]⟩),(169,⟨[(1,.c AB),(5,.c (xo Az7)),(16,.c xs)],[(Azx,.box Bi),(Az7,.arr 118 false Tq3)]⟩),(173,⟨[(1,.c AB),(5,.c (xo AzI))],[(Azx,.box Bi),(AzI,.arr 118 false Tq3)]⟩),(181,⟨[(1,.c AB),(5,.c (xo AzJ))],[(Azx,.box Bi),(AzJ,.arr 118 false Tq3)]⟩),(193,⟨[(1,.c AB),(5,.c (xo AzK))],[(Azx,.box Bi),(AzK,.arr 118 false Tq3)]⟩),(213,⟨[(1,.c AB),(5,.c (xo AzL))],[(Azx,.box Bi),(AzL,.arr 118 false Tq3)]⟩),(221,⟨[(1,.c AB),(5,.c (xo AzM))],[(Azx,.box Bi),(AzM,.arr 118 false Tq3)]⟩),(229,⟨[(1,.c AB),(5,.c (xo Az8))],[(Azx,.box Bi),(Az8,.arr 118 false Tq3)]⟩)],[(62,⟨[(1,.c AB),(5,.c (xo Azu)),(7,.c xs),(65,.i),(66,.i),(67,.c x64)],[(Azx,.box Bi),(Azu,.arr 118 false Tq3)]⟩,[(0,⟨[(1,.c AB),(5,.c (xo Azu)),(7,.c xs)],[(Azx,.box Bi),(Azu,.arr 118 false Tq3)]⟩)]),(94,⟨[(1,.c AB),(5,.c (xo Azv)),(10,.c xs),(88,.i),(89,.i),(90,.c x64)],[(Azx,.box Bi),(Azv,.arr 118 false Tq3)]⟩,[(2,⟨[(1,.c AB),(5,.c (xo Azv)),(10,.c xs)],[(Azx,.box Bi),(Azv,.arr 118 false Tq3)]⟩)]),(126,⟨[(1,.c AB),(5,.c (xo Az6)),(13,.c xs),(113,.i),(114,.i),(115,.c x64)],[(Azx,.box Bi),(Az6,.arr 118 false Tq3)]⟩,[(4,⟨[(1,.c AB),(5,.c (xo Az6)),(13,.c xs)],[(Azx,.box Bi),(Az6,.arr 118 false Tq3)]⟩)]),(234,⟨[(1,.c AB),(5,.c (xo Az8)),(237,.c (xo 93440)),(238,.i),(239,.c x64)],[(Azx,.box Bi),(93440,.arr 32 false (.sl 148 Tq2 .nil)),(Az8,.arr 118 false Tq3)]⟩,[(6,⟨[(1,.c AB),(5,.c (xo Az8))],[(Azx,.box Bi),(Az8,.arr 118 false Tq3)]⟩)])]⟩
def Abv:=JO 81 [Sq2] [.cell false (.sl 118 Tq3),Jz] (UG N) [eU N,Agp N,rX N,LV N,xZ N,aB N,VR N,oL N,wK N] yX Abu f81 N
open Go.Proofs Go.Proofs.Tryz
def Ad0:A0n:=[A0l 3 [1,10],A0l 130 [1,10,120,121,122]]
def AeT:Lk:=⟨[],[(130,⟨[(1,.c AB),(10,.c x64),(120,.i),(121,.i),(122,.c x64)],[(Azx,.box Bi)]⟩,[(0,⟨[(1,.c AB),(10,.c x64)],[(Azx,.box Bi)]⟩)])]⟩
def lM:=JO 39 [Sq2] [Jz] (RP N) [AgJ N,zV N,kU N,Yi N,dH N,XH N,Zo N,nJ N] Ad0 AeT f39 N (dd:=[(127,Aak N)]) (bb:=[15,19,20,24,28,29,34,39,40,45,46,51,52,56,57,61]) (hD:=⟨Aff N,trivial⟩)
def iW:=JB 164 [.box [(false,.bool)],Sq2] [Jw] (λa=>NZ N a.1 a.2) [Ae6 N,LJ N] f164 N
def kS:A0n:=[(3,⟨[5,6],[([6],9,Aq,Azz)],[],[(Azs,Azz)],[]⟩),(38,⟨[5,6,22,23,24],[([6],9,Aq,Azs)],[],[(54272,Azs)],[]⟩),(57,⟨[5,6,8,9,22,23,24],[([6],9,Aq,Azt)],[],[(Azs,Azt)],[]⟩),(65,⟨[5,6,8,9,22,23,24],[([6],9,Aq,Azu)],[],[(Azt,Azu)],[]⟩),(77,⟨[5,6,9,22,23,24],[([6],9,Aq,Azv)],[],[(Azu,Azv)],[]⟩)]
def nH:Lk:=⟨[(57,⟨[(5,.c AZ),(6,.c (xo Azt)),(8,.c AY),(9,.c (xo 39936)),(22,.i),(23,.i),(24,.i)],[(AzE,.box BF),(38144,.box [xb]),(39936,.arr 9 false Aq),(Azt,.arr 9 false Aq)]⟩),(65,⟨[(5,.c AZ),(6,.c (xo Azu)),(8,.c AY),(9,.c (xo 39936)),(22,.i),(23,.i),(24,.i)],[(AzE,.box BF),(38144,.box [xb]),(39936,.arr 9 false Aq),(Azu,.arr 9 false Aq)]⟩),(77,⟨[(5,.c AZ),(6,.c (xo Azv)),(9,.c (xo 39936)),(22,.i),(23,.i),(24,.i)],[(38144,.box [xb]),(39936,.arr 9 false Aq),(Azv,.arr 9 false Aq)]⟩)],[(38,⟨[(5,.c AZ),(6,.c (xo Azs)),(22,.i),(23,.i),(24,.c x64)],[(38144,.box [xb]),(Azs,.arr 9 false Aq)]⟩,[(0,⟨[(5,.c AZ),(6,.c (xo Azz))],[(38144,.box [xb]),(Azz,.arr 9 false Aq)]⟩)])]⟩
def Xb:=JO 246 [.cell false (.sl 148 Tq2)] [Jw,Jz] (OC N) [XH N,bD N,LJ N,Ls N,mJ N,Z4 N,LX N,⟨31,Uo N,Ry N⟩] kS nH f246 N
def iZ:Sig:=.of [mY,Xy] [Jz] (λa=>qF N a.1 a.2)
def AdD (N:Nat):pF Tryz.prog 59 [(60,true),(61,true),(62,true),(63,false)] (iZ N):=AoL (k0:=[(false,.str),(false,.str),(false,(.sl 82 (.sl 84 Tq0 .nil))),(false,(.int .i64)),(false,.str),(false,.str),(false,.bool),(false,.bool),(false,(.int .i64)),(false,(.int .i64)),(false,(.sl 9 (.str .nil))),(false,(.sl 9 (.str .nil))),(false,(.sl 88 (.str (.str .nil)))),(false,(.int .i64)),(false,(.int .i64)),(false,(.int .i64)),(false,(.sl 146 Tq1)),(false,.bool),(false,(.sl 146 Tq1)),(false,(.sl 146 Tq1)),(false,.str),(false,.str),(false,(.sl 148 Tq2)),(false,(.sl 148 Tq2)),(false,(.sl 118 Tq3)),(false,.str)]) (k1:=[(false,(.sl 164 Tq5))]) (λa=>by kernel_rfl) [((60,true),λa=>Um N a.1 a.2),((61,true),λa=>QE N a.1 a.2),((62,true),λa=>QF N a.1 a.2),((63,false),λa=>QB N a.1 a.2)] ⟨nP N,aV N,aX N,YW N,trivial⟩
def Ab0:=JB 34 [Jz,Sq2] [Jw,Jz] (λa=>PQ N a.1 a.2) [Abv N,Agq N] f34 N
open Go.Proofs Go.Proofs.Tryz
def Yp:=JB 10 [Sq3] [Jz] (RS N) [UN N,Wx N,lM N] f10 N
def yG:=JB 173 [.box [(false,.bool)],Sq2] [Jw] (λa=>QA N a.1 a.2) [Xb N,LJ N] f173 N
def pW:=JB 176 [.box [(false,.bool)],Sq2] [Jw] (λa=>Pv N a.1 a.2) [Xb N,LJ N] f176 N
def Abt:=JB 9 [Sq3] [Jw,Jz] (UF N) [VS N,bY N,AcJ N,Ab0 N,rX N,Vh N] f9 N
open Go.Proofs Go.Proofs.Tryz
def Ais (N n:Nat):Sig:=.of [.box [(false,.bool)],Sq2] [.cell false .str] (AgR N n)
def ApW (N:Nat):fA Tryz.prog (Ais N):=AbT (Jt:=[.box [(false,.bool)],Sq2]) (J7:=[.cell false .str]) (l:=[(140,λa=>P9 N a.1 a.2),(143,λa=>PE N a.1 a.2),(146,λa=>NW N a.1 a.2),(149,λa=>NV N a.1 a.2),(152,λa=>NU N a.1 a.2),(155,λa=>OV N a.1 a.2),(158,λa=>Oo N a.1 a.2),(161,λa=>PD N a.1 a.2),(164,λa=>NZ N a.1 a.2),(167,λa=>Oq N a.1 a.2),(170,λa=>NC N a.1 a.2),(173,λa=>QA N a.1 a.2),(176,λa=>Pv N a.1 a.2)]) ⟨(zX N).h,(zZ N).h,(qE N).h,(qB N).h,(pY N).h,(yF N).h,(tY N).h,(zY N).h,(iW N).h,(uA N).h,(nK N).h,(yG N).h,(pW N).h,trivial⟩
def AdC:=JO 20 [Jw] [Sq3,Jz] (QU N) [AgG N,Yp N] [] A0o f20 N (aa:=[(57,uF N)]) (hA:=⟨Alh N,trivial⟩) (ee:=[((59,[(60,true),(61,true),(62,true),(63,false)]),iZ N)]) (hE:=⟨AdD N,trivial⟩)
open Go.Proofs Go.Proofs.Tryz
def Acu:A0n:=[(3,⟨[1,5,6],[([6],118,Tq3,Azt)],[],[(Azs,Azt)],[]⟩),(30,⟨[1,5,6,16,17,18],[([6],118,Tq3,Azs)],[],[(44032,Azs)],[]⟩)]
def Ad1:Lk:=⟨[],[(30,⟨[(1,.c AB),(5,.c (.c (.ptr 36608 0))),(6,.c (xo Azs)),(16,.i),(17,.i),(18,.c x64)],[(Azx,.box Bi),(36608,.box [xb]),(Azs,.arr 118 false Tq3)]⟩,[(0,⟨[(1,.c AB),(5,.c (.c (.ptr 36608 0))),(6,.c (xo Azt))],[(Azx,.box Bi),(36608,.box [xb]),(Azt,.arr 118 false Tq3)]⟩)])]⟩
def Ad2:=JO 23 [Sq2] [.cell false (.sl 118 Tq3),Jz] (Wl N) [lM N,Zo N,⟨31,Uo N,Ry N⟩] Acu Ad1 f23 N (dd:=[(23,Aak N),(38,Ais N)]) (hD:=⟨Aff N,ApW N,trivial⟩)
open Go.Proofs Go.Proofs.Tryz
def AeW:A0n:=[A0l 45 [1,5,6]]
def AgK:Lk:=⟨[(45,⟨[(1,.c AB),(5,.c (.c (.ptr 36864 0))),(6,.c xs)],[(Azx,.box Bo),(36864,.box [xb])]⟩)],[]⟩
def Zp:=JO 8 [Sq3] [Jw,Jz] (OG N) [Yp N,Ad2 N,LJ N,Aly N,Ls N,X4 N,qL N,AdX N,LX N,⟨31,Uo N,Ry N⟩] AeW AgK f8 N
open Go.Proofs Go.Proofs.Tryz
def AeV:=JB 18 [Sq3,Adw] [Jw,Jz] (λa=>RQ N a.1 a.2) [Zb N,Zp N,wW N,AgL N] f18 N
def dY:=JO 18 [Sq3,.cell false .ptr] [Jw,Jz] (λa=>lN N a.1 a.2) [Zp N] [] A0o f18 N (zz:=[(21,0,(Qv N).S)]) (hZ:=⟨(Qv N).h,trivial⟩)
open Go.Proofs Go.Proofs.Tryz
def Ajx:=JO 5 [] [JQ] (λ_=>Td N) [Adg N,AfD N,bK N,AeV N,AdC N,Zb N,iY N] [] A0o f5 N (aa:=[(16,kM N)]) (bb:=[32,35,36,42,43,47,48,52]) (ss:=[(6,7,36,[37,38,39,40,41])]) (hA:=⟨AhU N,trivial⟩) (zz:=[(18,1,(dY N).S),(21,0,(Qv N).S)]) (hZ:=⟨(dY N).h,(Qv N).h,trivial⟩)
open Go.Proofs Go.Proofs.Tryz
def qX:A0n:=[A0l 3 [],A0l 18 [20,21,22]]
def vG:Lk:=⟨[],[(18,⟨[(20,.c (xo 37888)),(21,.i),(22,.c x64)],[(37888,.arr 37 false Tq6)]⟩,[(0,⟨[],[]⟩)])]⟩
def OJ:Sig:=.of [Sq3,Sq4] [JQ] (λa=>Qd N a.1 a.2)
def l7:pI 3 (OJ N):=AbW (AbQ (ksp [Ajy N,Ajx N,AfD N,Af9 N,Zp N,Abt N,Yp N,VS N,iY N,gJ N]) qX [] [] [] [41,45,46,50,51,57]) vG f3 N (MB (Oe _))
end
end Go.Proofs.YtacidcemomccpaaGreatDoor.Vm
