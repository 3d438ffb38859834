import Derived.Test.YtbnphelpndnnfabGreatDoorA15
set_option linter.all false
namespace Go.Proofs.YtbnphelpndnnfabGreatDoor.Vm
noncomputable section
variable (N:Nat)
open Go.Proofs
def sN:List (Nat×Nrm):=[(3,⟨[],[],[],[],[]⟩),(18,⟨[9,10,11],[],[],[],[]⟩)]
def yS:Lk:=⟨[],[(18,⟨[(9,.i),(10,.i),(11,.c x64)],[]⟩,[(0,⟨[],[]⟩)])]⟩
def JV:Sig:=.of [.cell false (.sl 170 Tq1)] [Dp] (fun a=>LH N a)
theorem KY:Dn 204 (JV N):=Dt (Dq [(304,Jh N)] sN) yS Tryz.f204 N (Dk ⟨JA N,trivial⟩)
def KC:Sig:=.of [Sq2,Sq2] [DJ] (fun a=>Gn N a.1 a.2)
theorem LD:Dn 138 (KC N):=Dt (Dq [(208,Vd N)] []) ⟨[],[]⟩ Tryz.f138 N (Dk ⟨iO N,trivial⟩)
def KU:Sig:=.of [Sq5,DJ] [Dw,Dp] (fun a=>MN N a.1 a.2)
theorem NF:Dn 306 (KU N):=Dt (Dq [(304,Jh N),(71,JS N),(132,EL N)] []) ⟨[],[]⟩ Tryz.f306 N (Dk ⟨JA N,KX N,E8 N,trivial⟩)
def SA:Sig:=.of [Dp,.cell false (.sl 220 Tq4)] [Dw,Dp] (fun a=>VW N a.1 a.2)
theorem Vo:Dn 76 (SA N):=Dt (Dq [(140,J7 N),(74,I4 N)] []) ⟨[],[]⟩ Tryz.f76 N (Dk ⟨Le N,GR N,trivial⟩)
def bT:List (Nat×Nrm):=[(3,⟨[],[],[],[],[]⟩),(26,⟨[31,32,33],[],[],[],[]⟩)]
def iM:Lk:=⟨[],[(26,⟨[(31,.c (xo 40704)),(32,.i),(33,.c x64)],[(40704,.arr 170 false Tq1)]⟩,[(0,⟨[],[]⟩)])]⟩
def KT:Sig:=.of [Aiu] [Dp] (fun a=>MM N a)
theorem ND:Dn 321 (KT N):=Dt (Dq [(304,Jh N)] bT) iM Tryz.f321 N (Dk ⟨JA N,trivial⟩)
def Ajt:List (Nat×Nrm):=[(17,⟨[2,3],[],[],[],[]⟩)]
def AkL:Lk:=⟨[(17,⟨[(2,.c AL),(3,.c AP)],[(0,.box BF),(33280,.box [AA,AA,A8,(xo 33284),(xo 33285),A8,A8,A8,AA,AA,AB,AB,A8,A8,(xo 33295),(xo 33296),(xo 33297),A8,A8,A8,(xo 33301),AB,(xo 33303),(xo 33304),AA,AA,(xo 33307),(xo 33308),(xo 33309),AA]),(33284,.D5 120 false Ar),(33285,.D5 120 false Ar),(33295,.D5 9 false Aq),(33296,.D5 9 false Aq),(33297,.D5 288 false (.str Aq)),(33301,.D5 170 false Tq1),(33303,.D5 170 false Tq1),(33304,.D5 170 false Tq1),(33307,.D5 230 false Tq2),(33308,.D5 230 false Tq2),(33309,.D5 220 false Tq4),(33536,.box [AA,AA,x64,Bi,Bi,x64,x64,x64,xs,xs,xb,xb,x64,x64,Bh,Bh,(xl (.str Aq)),x64,x64,x64,Bf,xb,Bf,Bf,xs,xs,Bg,Bg,Bo,AA])]⟩)],[]⟩
def Abl:Sig:=.of [Sq1] [AeV] (fun a=>xI N a)
theorem AfO:Dn 51 (Abl N):=Dt (Dq [(6,Ez N),(22,L8 N),(89,Uu N),(84,bI N),(90,Aej N),(91,Abm N)] Ajt) AkL Tryz.f51 N (Dk ⟨Ei N,MK N,TY N,gW N,Ahx N,AfP N,trivial⟩)
def Adc:List (Nat×Nrm):=[(3,⟨[1],[],[],[],[]⟩),(11,⟨[1,31,32,33],[],[],[],[]⟩),(18,⟨[1,31,32,33],[],[],[],[]⟩),(19,⟨[],[],[],[],[]⟩),(30,⟨[1,31,32,33,37,38,39],[],[],[],[]⟩),(62,⟨[51,52,53],[],[],[],[]⟩)]
def Afb:Lk:=⟨[],[(18,⟨[(1,.c AO),(31,.c (xo 40704)),(32,.i),(33,.c x64)],[(33024,.box BI),(40704,.arr 35 false (.sl 9 Aq .nil))]⟩,[(0,⟨[(1,.c AO)],[(33024,.box BI)]⟩)]),(30,⟨[(1,.c AO),(31,.c (xo 40704)),(32,.i),(33,.i),(37,.i),(38,.i),(39,.c x64)],[(33024,.box BI),(40704,.arr 35 false (.sl 9 Aq .nil))]⟩,[(2,⟨[(1,.c AO),(31,.c (xo 40704)),(32,.i),(33,.i)],[(33024,.box BI),(40704,.arr 35 false (.sl 9 Aq .nil))]⟩)]),(62,⟨[(51,.i),(52,.i),(53,.c x64)],[]⟩,[(4,⟨[],[]⟩)])]⟩
def NM:Sig:=.of [jI] [Dp] (fun a=>I8 N a)
theorem O7:Dn 30 (NM N):=Dt (Dq [(52,O8 N),(53,UD N)] Adc) Afb Tryz.f30 N (Dk ⟨QF N,dJ N,trivial⟩)
def Af1:List (Nat×Nrm):=[(3,⟨[],[],[],[],[]⟩),(18,⟨[11,12,13],[],[],[],[]⟩)]
def Ahn:Lk:=⟨[],[(18,⟨[(11,.i),(12,.i),(13,.c x64)],[]⟩,[(0,⟨[],[]⟩)])]⟩
def Hw:Sig:=.of [Sq2] [Dp] (fun a=>Iy N a)
theorem G6:Dn 108 (Hw N):=Dt (Dq [(174,Qr N)] Af1) Ahn Tryz.f108 N (Dk ⟨XV N,trivial⟩)
def Vk:Sig:=.of [Sq6] [Dp] (fun a=>YH N a)
theorem iZ:Dn 129 (Vk N):=Dt (Dq [(203,WO N),(204,JV N)] []) ⟨[],[]⟩ Tryz.f129 N (Dk ⟨nN N,KY N,trivial⟩)
def mZ:List (Nat×Nrm):=[(3,⟨[],[],[],[],[]⟩),(18,⟨[10,11,12],[],[],[],[]⟩)]
def sF:Lk:=⟨[],[(18,⟨[(10,.i),(11,.i),(12,.c x64)],[]⟩,[(0,⟨[],[]⟩)])]⟩
def J8:Sig:=.of [.cell false (.sl 230 Tq2)] [Dp] (fun a=>Jb N a)
theorem Kw:Dn 130 (J8 N):=Dt (Dq [(204,JV N),(128,Gg N)] mZ [] [] [] [20,24,25,29,35,36]) sF Tryz.f130 N (Dk ⟨KY N,FU N,trivial⟩)
def sK:List (Nat×Nrm):=[(3,⟨[],[],[],[],[]⟩),(66,⟨[1,2,5,7],[],[],[],[]⟩)]
def yR:Lk:=⟨[],[(66,⟨[(1,.i),(2,.c AL),(5,.c AV),(7,.c x64)],[(33280,.box BA),(34048,.box BH)]⟩,[(0,⟨[],[]⟩)])]⟩
def Vj:Sig:=.of [Sq6,Dp] [Dp] (fun a=>YF N a.1 a.2)
theorem iW:Dn 131 (Vj N):=Dt (Dq [(205,jB N),(128,Gg N),(138,KC N)] sK [] [] [] [24,28,29,33,34,38]) yR Tryz.f131 N (Dk ⟨AaM N,FU N,LD N,trivial⟩)
def rV:List (Nat×Nrm):=[(3,⟨[4],[],[],[],[]⟩),(30,⟨[4,15,16,17],[],[],[],[]⟩)]
def yE:Lk:=⟨[],[(30,⟨[(4,.c xs),(15,.i),(16,.i),(17,.c x64)],[]⟩,[(0,⟨[(4,.c xs)],[]⟩)])]⟩
def JR:Sig:=.of [.cell false (.sl 170 Tq1)] [Dw,Dp] (fun a=>LC N a)
theorem KW:Dn 209 (JR N):=Dt (Dq [(306,KU N)] rV) yE Tryz.f209 N (Dk ⟨NF N,trivial⟩)
def yN:List (Nat×Nrm):=[(3,⟨[6],[],[],[],[]⟩),(10,⟨[2,4,6,11,12,13],[],[],[],[]⟩)]
def AaJ:Lk:=⟨[],[(10,⟨[(2,.i),(4,.c AU),(6,.c AY),(11,.i),(12,.i),(13,.c x64)],[(33792,.box [Bi]),(34304,.box [A8,A8,A8,A8,(xo 34309)]),(34309,.D5 120 false Ar)]⟩,[(0,⟨[(6,.c AY)],[(34304,.box [A8,A8,A8,A8,(xo 34309)]),(34309,.D5 120 false Ar)]⟩)])]⟩
def WL:Sig:=.of [Sq6,Sq2,Dp] [AlB,DJ] (fun a=>ZP N a.1 a.2.1 a.2.2)
theorem nH:Dn 87 (WL N):=Dt (Dq [(138,KC N)] yN) AaJ Tryz.f87 N (Dk ⟨LD N,trivial⟩)
def AhK:List (Nat×Nrm):=[(3,⟨[0,6],[],[],[],[]⟩),(22,⟨[0,6,14,15,16],[],[],[],[]⟩)]
def AjV:Lk:=⟨[],[(22,⟨[(0,.i),(6,.c xs),(14,.i),(15,.i),(16,.c x64)],[]⟩,[(0,⟨[(0,.i),(6,.c xs)],[]⟩)])]⟩
def yJ:Sig:=.of [Dp,.cell false (.sl 170 Tq1)] [Dw,Dp] (fun a=>mW N a.1 a.2)
theorem AeD:Dn 381 (yJ N):=Dt (Dq [(306,KU N),(132,EL N),(74,I4 N)] AhK) AjV Tryz.f381 N (Dk ⟨NF N,E8 N,GR N,trivial⟩)
def AbL:List (Nat×Nrm):=[(3,⟨[1,5,6],[([6],9,Aq,1004096)],[],[(1000000,1004096)],[1004096]⟩),(30,⟨[1,5,6,18,19,20],[([6],9,Aq,1000000)],[],[(42752,1000000)],[]⟩)]
def Adf:Lk:=⟨[],[(30,⟨[(1,.c AO),(5,.c Bd),(6,.c (xo 1000000)),(18,.i),(19,.i),(20,.c x64)],[(33024,.box BI),(36864,.box [xb]),(1000000,.arr 9 false Aq)]⟩,[(0,⟨[(1,.c AO),(5,.c Bd),(6,.c (xo 1004096))],[(33024,.box BI),(36864,.box [xb]),(1004096,.arr 9 true Aq)]⟩)])]⟩
def QE:Sig:=.of [jI] [Dw,Dp] (fun a=>IU N a)
theorem UC:Dn 13 (QE N):=Dt (Dq [(30,NM N),(32,o6 N),(31,G5 N),(33,Lr N)] AbL) Adf Tryz.f13 N (Dk ⟨O7 N,AbM N,Gq N,MG N,trivial⟩)
def AbK:List (Nat×Nrm):=[(3,⟨[2,4,5,6],[],[],[(34051,1004096),(1000000,1004096)],[]⟩),(62,⟨[2,4,5,6,53,54,55],[],[],[(34051,1000000),(51200,1000000)],[]⟩)]
def Ade:Lk:=⟨[],[(62,⟨[(2,.c AL),(4,.c AU),(5,.c AV),(6,.c AX),(53,.i),(54,.i),(55,.c x64)],[(33280,.box BD),(33281,.D5 9 false Aq),(33282,.D5 9 false Aq),(33283,.D5 32 false (.str Aq)),(33792,.box [(xo 33793),(xo 33794),(xo 33795)]),(33793,.D5 9 false Aq),(33794,.D5 9 false Aq),(33795,.D5 32 false (.str Aq)),(34048,.box [Bh,Bh,(xo 1000000)]),(37120,.box [Bl]),(1000000,.arr 32 false (.str Aq))]⟩,[(0,⟨[(2,.c AL),(4,.c AU),(5,.c AV),(6,.c AX)],[(33280,.box BD),(33281,.D5 9 false Aq),(33282,.D5 9 false Aq),(33283,.D5 32 false (.str Aq)),(33792,.box [(xo 33793),(xo 33794),(xo 33795)]),(33793,.D5 9 false Aq),(33794,.D5 9 false Aq),(33795,.D5 32 false (.str Aq)),(34048,.box [Bh,Bh,(xo 1004096)]),(37120,.box [Bl]),(1004096,.arr 32 false (.str Aq))]⟩)])]⟩
def QD:Sig:=.of [Dw] [jI,Dp] (fun a=>JC N a)
theorem UB:Dn 14 (QD N):=Dt (Dq [(35,SX N),(36,SV N),(37,Eh N),(30,NM N)] AbK [(34,Gy N)]) Ade Tryz.f14 N (Dk ⟨ZZ N,ZY N,DZ N,O7 N,trivial⟩ ⟨Gw N,trivial⟩)
def VE:Sig:=.of [Dp] [Dp] (fun a=>aY N a)
theorem Ya:Dn 363 (VE N):=Dt (Dq [] []) ⟨[],[]⟩ Tryz.f363 N (Dk trivial)
def PO:Sig:=.of [Dw] [Dp] (fun a=>TC N a)
theorem Td:Dn 349 (PO N):=Dt (Dq [] []) ⟨[],[]⟩ Tryz.f349 N (Dk trivial)
def AaV:Sig:=.of [Dp] [DJ] (fun a=>Zh N a)
theorem Afg:Dn 109 (AaV N):=Dt (Dq [] []) ⟨[],[]⟩ Tryz.f109 N (Dk trivial)
def Adr:List (Nat×Nrm):=[(3,⟨[2,3],[([3],120,Ar,1004096)],[],[(1000000,1004096)],[]⟩),(14,⟨[2,3,7,8,9],[([3],120,Ar,1000000)],[],[(37120,1000000)],[]⟩)]
def Afp:Lk:=⟨[],[(14,⟨[(2,.c AL),(3,.c (xo 1000000)),(7,.i),(8,.i),(9,.c x64)],[(33280,.box BP),(33281,.D5 120 false Ar),(1000000,.arr 120 false Ar)]⟩,[(0,⟨[(2,.c AL),(3,.c (xo 1004096))],[(33280,.box BP),(33281,.D5 120 false Ar),(1004096,.arr 120 false Ar)]⟩)])]⟩
def fB:Sig:=.of [Sq2] [Sq2] (fun a=>uT N a)
theorem Aaw:Dn 285 (fB N):=Dt (Dq [] Adr) Afp Tryz.f285 N (Dk trivial)
def kF:Sig:=.of [Dp,Dp,Dp] [DJ] (fun a=>Jv N a.1 a.2.1 a.2.2)
theorem oK:Dn 117 (kF N):=Dt (Dq [] []) ⟨[],[]⟩ Tryz.f117 N (Dk trivial)
def Aki:List (Nat×Nrm):=[(3,⟨[3],[([3],5,Aw,1012288)],[],[(1000000,1012288)],[]⟩),(18,⟨[3,4,8,9,10],[([3],5,Aw,1000000)],[],[(41472,1000000)],[]⟩),(45,⟨[3,4,6,8,9,10],[([3],5,Aw,1004096)],[],[(38400,1004096),(1000000,1004096)],[]⟩),(53,⟨[3,4,6,8,9,10],[([3],5,Aw,1008192)],[],[(1004096,1008192)],[]⟩)]
def Ale:Lk:=⟨[(45,⟨[(3,.c (xo 1004096)),(4,.c xb),(6,.i),(8,.c (xo 34816)),(9,.i),(10,.i)],[(34816,.arr 5 false Aw),(1004096,.arr 5 false Aw)]⟩),(53,⟨[(3,.c (xo 1008192)),(4,.i),(6,.c x8),(8,.c (xo 34816)),(9,.i),(10,.i)],[(34816,.arr 5 false Aw),(1008192,.arr 5 false Aw)]⟩)],[(18,⟨[(3,.c (xo 1000000)),(4,.c xb),(8,.c (xo 34816)),(9,.i),(10,.c x64)],[(34816,.arr 5 false Aw),(1000000,.arr 5 false Aw)]⟩,[(0,⟨[(3,.c (xo 1012288))],[(1012288,.arr 5 false Aw)]⟩)])]⟩
def AbA:Sig:=.of [Dw] [Dw] (fun a=>zI N a)
theorem Ags:Dn 400 (AbA N):=Dt (Dq [] Aki) Ale Tryz.f400 N (Dk trivial)
def Ag5:Sig:=.of [Dp] [Dp] (fun a=>Afo N a)
theorem AiB:Dn 292 (Ag5 N):=Dt (Dq [] []) ⟨[],[]⟩ Tryz.f292 N (Dk trivial)
def fE:Sig:=.of [Sq6] [DJ] (fun a=>uZ N a)
theorem Aaz:Dn 190 (fE N):=Dt (Dq [] []) ⟨[],[]⟩ Tryz.f190 N (Dk trivial)
def zJ:Sig:=.of [Dw,Dw] [DJ] (fun a=>nY N a.1 a.2)
theorem AeN:Dn 374 (zJ N):=Dt (Dq [(400,AbA N)] []) ⟨[],[]⟩ Tryz.f374 N (Dk ⟨Ags N,trivial⟩)
def vG:Sig:=.of [Dp] [DJ] (fun a=>Adw N a)
theorem Adx:Dn 189 (vG N):=Dt (Dq [(292,Ag5 N)] []) ⟨[],[]⟩ Tryz.f189 N (Dk ⟨AiB N,trivial⟩)
def xW:List (Nat×Nrm):=[(3,⟨[0,3],[],[],[],[]⟩),(11,⟨[5],[([5],5,Aw,1012288)],[],[(1008192,1012288)],[]⟩),(14,⟨[0,3,4],[],[],[],[]⟩),(34,⟨[0,3,5,18,19],[([5],5,Aw,1008192)],[],[(41216,1008192)],[]⟩)]
def AaA:Lk:=⟨[],[(14,⟨[(0,.i),(3,.c x64),(4,.c x64)],[]⟩,[(0,⟨[(0,.i),(3,.c x64)],[]⟩)]),(34,⟨[(0,.i),(3,.i),(5,.c (xo 1008192)),(18,.i),(19,.c x64)],[(1008192,.arr 5 false Aw)]⟩,[(2,⟨[(5,.c (xo 1012288))],[(1012288,.arr 5 false Aw)]⟩)])]⟩
def OI:Sig:=.of [Dp] [Dw] (fun a=>RJ N a)
theorem RN:Dn 192 (OI N):=Dt (Dq [] xW) AaA Tryz.f192 N (Dk trivial)
def Ak2:List (Nat×Nrm):=[(3,⟨[0,1,7],[],[],[(0,1004096),(1000000,1004096)],[]⟩),(11,⟨[0],[],[],[],[]⟩),(14,⟨[0,1,2,7,8],[],[],[(0,1000000),(37632,1000000)],[]⟩),(30,⟨[0,1,7,9],[],[],[],[]⟩)]
def Ama:Lk:=⟨[],[(14,⟨[(0,.c (xo 1000000)),(1,.i),(2,.i),(7,.i),(8,.c x64)],[(1000000,.arr 5 false Aw)]⟩,[(0,⟨[(0,.c (xo 1004096)),(1,.i),(7,.i)],[(1004096,.arr 5 false Aw)]⟩)]),(30,⟨[(0,.c (xo 1004096)),(1,.c x64),(7,.i),(9,.c x64)],[(1004096,.arr 5 false Aw)]⟩,[(2,⟨[(0,.c (xo 1004096))],[(1004096,.arr 5 false Aw)]⟩)])]⟩
def Ad4:Sig:=.of [AqG,Dp,Dp] [AqG] (fun a=>kJ N a.1 a.2.1 a.2.2)
theorem Ahm:Dn 198 (Ad4 N):=Dt (Dq [] Ak2) Ama Tryz.f198 N (Dk trivial)
def AmS:List (Nat×Nrm):=[(3,⟨[0,1,5],[],[],[],[]⟩),(10,⟨[0,1,5],[],[],[],[]⟩),(11,⟨[0,1],[],[],[(0,1012288),(1008192,1012288)],[]⟩),(22,⟨[0,1,6],[],[],[(0,1008192),(40704,1008192)],[]⟩)]
def Aoz:Lk:=⟨[],[(10,⟨[(0,.c (xo 0)),(1,.i),(5,.c x64)],[(0,.arr 5 true Aw)]⟩,[(0,⟨[(0,.c (xo 0)),(1,.i),(5,.c x64)],[(0,.arr 5 true Aw)]⟩)]),(22,⟨[(0,.c (xo 1008192)),(1,.i),(6,.c x64)],[(1008192,.arr 5 true Aw)]⟩,[(2,⟨[(0,.c (xo 1012288)),(1,.i)],[(1012288,.arr 5 true Aw)]⟩)])]⟩
def AgQ:Sig:=.of [AqH,Dp] [AqH] (fun a=>AfW N a.1 a.2)
theorem AjB:Dn 294 (AgQ N):=Dt (Dq [] AmS) Aoz Tryz.f294 N (Dk trivial)
def OH:Sig:=.of [DJ] [Dw] (fun a=>RG N a)
theorem RH:Dn 298 (OH N):=Dt (Dq [] []) ⟨[],[]⟩ Tryz.f298 N (Dk trivial)
def Ac3:List (Nat×Nrm):=[(3,⟨[0,4],[],[],[],[]⟩),(11,⟨[5],[],[],[],[]⟩),(18,⟨[0,4],[],[],[],[]⟩),(38,⟨[0,5,34,35],[],[],[],[]⟩)]
def Ae0:Lk:=⟨[],[(18,⟨[(0,.i),(4,.c x64)],[]⟩,[(0,⟨[(0,.i),(4,.c x64)],[]⟩)]),(38,⟨[(0,.i),(5,.c (xo 38912)),(34,.i),(35,.c x64)],[(38912,.arr 5 false Aw)]⟩,[(2,⟨[(5,.c (xo 38912))],[(38912,.arr 5 false Aw)]⟩)])]⟩
def RI:Sig:=.of [Dp] [Dw,Dp] (fun a=>VN N a)
theorem UZ:Dn 300 (RI N):=Dt (Dq [] Ac3) Ae0 Tryz.f300 N (Dk trivial)
def AiI:List (Nat×Nrm):=[(3,⟨[],[],[],[],[]⟩),(10,⟨[3,7,8,9],[],[],[],[]⟩)]
def Ak4:Lk:=⟨[],[(10,⟨[(3,.c AP),(7,.i),(8,.i),(9,.c x64)],[(33536,.box [xs,x64,xs])]⟩,[(0,⟨[],[]⟩)])]⟩
def Abb:Sig:=.of [.cell false (.sl 119 Tq0),Sq7] [DJ] (fun a=>Zw N a.1 a.2)
theorem Af5:Dn 309 (Abb N):=Dt (Dq [(374,zJ N)] AiI) Ak4 Tryz.f309 N (Dk ⟨AeN N,trivial⟩)
def Ls:Sig:=.of [.box [(false,.bool)],Dp] [Dw] (fun a=>KN N a.1 a.2)
theorem MH:Dn 122 (Ls N):=Dt (Dq [(192,OI N),(54,Fg N)] []) ⟨[],[]⟩ Tryz.f122 N (Dk ⟨RN N,EX N,trivial⟩)
def Ah1:List (Nat×Nrm):=[(3,⟨[5],[],[],[(37888,1004096),(1000000,1004096)],[]⟩),(26,⟨[5,22,23,24],[],[],[(37888,1000000),(40448,1000000)],[]⟩)]
def Aj9:Lk:=⟨[],[(26,⟨[(5,.c (xo 1000000)),(22,.i),(23,.i),(24,.c x64)],[(1000000,.arr 5 true Aw)]⟩,[(0,⟨[(5,.c (xo 1004096))],[(1004096,.arr 5 true Aw)]⟩)])]⟩
def Rw:Sig:=.of [Dw] [Dw,Dp] (fun a=>Xi N a)
theorem Rx:Dn 194 (Rw N):=Dt (Dq [(293,lU N),(294,AgQ N)] Ah1) Aj9 Tryz.f194 N (Dk ⟨pF N,AjB N,trivial⟩)
def Ws:Sig:=.of [.box [(false,.bool)],Dp,DJ] [Dw] (fun a=>MQ N a.1 a.2.1 a.2.2)
theorem kK:Dn 301 (Ws N):=Dt (Dq [(298,OH N),(54,Fg N)] []) ⟨[],[]⟩ Tryz.f301 N (Dk ⟨RH N,EX N,trivial⟩)
def Aho:List (Nat×Nrm):=[(3,⟨[],[],[],[],[]⟩),(18,⟨[0,1,12,13],[],[],[],[]⟩)]
def AiJ:Lk:=⟨[],[(18,⟨[(0,.i),(1,.i),(12,.i),(13,.c x64)],[]⟩,[(0,⟨[],[]⟩)])]⟩
def vW:Sig:=.of [.cell false (.sl 119 Tq0),.cell false (.sl 119 Tq0)] [DJ] (fun a=>Ad9 N a.1 a.2)
theorem AdA:Dn 215 (vW N):=Dt (Dq [(309,Abb N)] Aho) AiJ Tryz.f215 N (Dk ⟨Af5 N,trivial⟩)
def Ahi:List (Nat×Nrm):=[(3,⟨[2,4,5,6],[],[],[],[]⟩),(11,⟨[2,4,5,6,7],[],[],[],[]⟩),(22,⟨[2,4,5,6],[],[],[],[]⟩),(38,⟨[2,4,5,6,7],[],[],[],[]⟩)]
def AiF:Lk:=⟨[],[(22,⟨[(2,.c AL),(4,.i),(5,.i),(6,.c x64)],[(33280,.box BO)]⟩,[(0,⟨[(2,.c AL),(4,.i),(5,.i),(6,.c x64)],[(33280,.box BO)]⟩)]),(38,⟨[(2,.c AL),(4,.c x64),(5,.i),(6,.i),(7,.c x64)],[(33280,.box BO)]⟩,[(2,⟨[(2,.c AL),(4,.c x64),(5,.i),(6,.i),(7,.c x64)],[(33280,.box BO)]⟩)])]⟩
def vM:Sig:=.of [Dp] [Sq8,Dp] (fun a=>Ady N a)
theorem Adz:Dn 197 (vM N):=Dt (Dq [(296,V8 N),(297,V9 N)] Ahi) AiF Tryz.f197 N (Dk ⟨XO N,XP N,trivial⟩)
def Acj:List (Nat×Nrm):=[(49,⟨[1,6],[],[],[],[]⟩)]
def AdD:Lk:=⟨[(49,⟨[(1,.c AO),(6,.c (xo 36864))],[(33024,.box [xs,xb,xs]),(36864,.arr 9 false Aq)]⟩)],[]⟩
def Zz:Sig:=.of [Sq9] [Dw,Dp] (fun a=>oO N a)
theorem wE:Dn 199 (Zz N):=Dt (Dq [(194,Rw N),(94,Jj N),(298,OH N)] Acj) AdD Tryz.f199 N (Dk ⟨Rx N,Hz N,RH N,trivial⟩)
def Ov:Sig:=.of [Sq7] [Dw,Dp] (fun a=>Qu N a)
theorem VC:Dn 195 (Ov N):=Dt (Dq [(194,Rw N),(94,Jj N)] []) ⟨[],[]⟩ Tryz.f195 N (Dk ⟨Rx N,Hz N,trivial⟩)
def Tj:Sig:=.of [] [Dw] (fun _=>Wx N)
theorem bF:Dn 123 (Tj N):=Dt (Dq [(194,Rw N),(94,Jj N)] []) ⟨[],[]⟩ Tryz.f123 N (Dk ⟨Rx N,Hz N,trivial⟩)
def VI:Sig:=.of [AlC,Ie] [Dp] (fun a=>J4 N a.1 a.2)
theorem SQ:Dn 231 (VI N):=Dt (Dq [(106,Ho N)] []) ⟨[],[]⟩ Tryz.f231 N (Dk ⟨IG N,trivial⟩)
def AiP:List (Nat×Nrm):=[(3,⟨[],[],[],[],[]⟩),(30,⟨[3,15,16,17],[],[],[],[]⟩)]
def Ak6:Lk:=⟨[],[(30,⟨[(3,.c (xo 36352)),(15,.i),(16,.i),(17,.c x64)],[(36352,.mp Aq Au)]⟩,[(0,⟨[],[]⟩)])]⟩
def aV:Sig:=.of [.cell false (.sl 220 Tq4)] [Dp] (fun a=>vZ N a)
theorem fU:Dn 170 (aV N):=Dt (Dq [(234,Abc N),(235,Kv N),(92,Pv N)] AiP) Ak6 Tryz.f170 N (Dk ⟨AfA N,Jr N,Om N,trivial⟩)
def Z5:Sig:=.of [Dw] [DJ] (fun a=>VG N a)
theorem wQ:Dn 353 (Z5 N):=Dt (Dq [(150,aZ N),(390,SG N),(218,QZ N)] []) ⟨[],[]⟩ Tryz.f353 N (Dk ⟨gG N,Ze N,P7 N,trivial⟩)
def YS:List (Nat×Nrm):=[(3,⟨[],[],[],[],[]⟩),(10,⟨[0,10,11,12],[],[],[],[]⟩),(11,⟨[0,4,10,11,12],[],[],[],[]⟩),(42,⟨[0,4,10,11,12,30,31,32],[],[],[],[]⟩)]
def aF:Lk:=⟨[],[(10,⟨[(0,.i),(10,.i),(11,.i),(12,.c x64)],[]⟩,[(0,⟨[],[]⟩)]),(42,⟨[(0,.i),(4,.c AU),(10,.i),(11,.i),(12,.i),(30,.i),(31,.i),(32,.c x64)],[(33792,.box [xs,xb,xs])]⟩,[(2,⟨[(0,.i),(4,.c AU),(10,.i),(11,.i),(12,.i)],[(33792,.box [xs,xb,xs])]⟩)])]⟩
def OQ:Sig:=.of [.cell false (.sl 220 Tq4)] [Dp] (fun a=>QJ N a)
theorem Xa:Dn 181 (OQ N):=Dt (Dq [(235,Kv N),(236,TD N),(92,Pv N)] YS) aF Tryz.f181 N (Dk ⟨Jr N,Wl N,Om N,trivial⟩)
def uJ:Sig:=.of [Dw,O5] [Dp] (fun a=>PS N a.1 a.2)
theorem eF:Dn 246 (uJ N):=Dt (Dq [(55,IA N),(339,RD N)] []) ⟨[],[]⟩ Tryz.f246 N (Dk ⟨Gv N,RF N,trivial⟩)
def jR:Sig:=.of [Dw,O5] [Dp] (fun a=>Nj N a.1 a.2)
theorem YU:Dn 261 (jR N):=Dt (Dq [(55,IA N),(338,Lp N)] []) ⟨[],[]⟩ Tryz.f261 N (Dk ⟨Gv N,MF N,trivial⟩)
def jT:Sig:=.of [Dw,O5] [Dp] (fun a=>Nk N a.1 a.2)
theorem YX:Dn 270 (jT N):=Dt (Dq [(55,IA N),(349,PO N)] []) ⟨[],[]⟩ Tryz.f270 N (Dk ⟨Gv N,Td N,trivial⟩)
def QO:Sig:=.of [H6] [Dp] (fun a=>V4 N a)
theorem UM:Dn 66 (QO N):=Dt (Dq [(97,Ii N),(106,Ho N)] []) ⟨[],[]⟩ Tryz.f66 N (Dk ⟨HY N,IG N,trivial⟩)
def Ag9 (N n:Nat):Sig:=.of [AlC,Ie] [.cell false (.int .i64)] (Al0 N n)
theorem Amf:Px Tryz.prog (Ag9 N):=TT (Dv:=[AlC,Ie]) (DI:=[.cell false (.int .i64)]) (l:=[(231,fun a=>J4 N a.1 a.2),(232,fun a=>MJ N a.1 a.2)]) ⟨SQ N,Yi N,trivial⟩
def Ahp:List (Nat×Nrm):=[(3,⟨[7],[([7],220,Tq4,1004096)],[],[(1000000,1004096)],[]⟩),(46,⟨[7,33,34,35],[([7],220,Tq4,1000000)],[],[(45568,1000000)],[]⟩)]
def AiQ:Lk:=⟨[],[(46,⟨[(7,.c (xo 1000000)),(33,.i),(34,.i),(35,.c x64)],[(1000000,.arr 220 false Tq4)]⟩,[(0,⟨[(7,.c (xo 1004096))],[(1004096,.arr 220 false Tq4)]⟩)])]⟩
def QV:Sig:=.of [Dw] [.cell false (.sl 220 Tq4),Dp] (fun a=>Xe N a)
theorem QW:Dn 104 (QV N):=Dt (Dq [(95,JZ N),(58,FV N),(169,Zy N),(170,aV N)] Ahp) AiQ Tryz.f104 N (Dk ⟨IK N,Fz N,wB N,fU N,trivial⟩)
def UR:Sig:=.of [Dp,Dw,DJ] [DJ] (fun a=>PY N a.1 a.2.1 a.2.2)
theorem fZ:Dn 291 (UR N):=Dt (Dq [(353,Z5 N),(150,aZ N),(354,Abi N),(355,gI N),(356,wR N),(357,gB N)] [] [] [] [] [11,14,15,18,21,22,26,29,30,33,36,37,41,44,45,48,51,52]) ⟨[],[]⟩ Tryz.f291 N (Dk ⟨wQ N,gG N,AfF N,Aa7 N,AdO N,Aa6 N,trivial⟩)
def uH:Sig:=.of [Dw,O5] [Dp] (fun a=>PQ N a.1 a.2)
theorem dS:Dn 243 (uH N):=Dt (Dq [(337,OB N),(57,Fb N),(338,Lp N),(37,Eh N)] [] [(34,Gy N)]) ⟨[],[]⟩ Tryz.f243 N (Dk ⟨QR N,EP N,MF N,DZ N,trivial⟩ ⟨Gw N,trivial⟩)
def Jn (N:Nat):Alt:=.of [.cell false .str] [H6,.cell false (.int .i64)] [.cell false .ptr,.cell false (.int .i64)] (fun a=>Nl N a)
theorem Lm:Spec Tryz.prog 341 (Jn N).1/\Spec Tryz.prog 341 (Jn N).2.1:=WW (C:=ctx Tryz.prog [(184,FZ N)] [] [(34,Gy N)]) (L:=⟨[],[]⟩) (fn:=Tryz.f341) (N:=N) (Dk ⟨FQ N,trivial⟩ ⟨Gw N,trivial⟩) (by kernel_rfl) (by kernel_rfl) (fun a=>by kernel_rfl)
def aH:Sig:=.of [Dw,O5] [Dp] (fun a=>Ll N a.1 a.2)
theorem Xb:Dn 273 (aH N):=Dt (Dq [(60,Ey N),(349,PO N),(37,Eh N)] [] [(34,Gy N)]) ⟨[],[]⟩ Tryz.f273 N (Dk ⟨Em N,Td N,DZ N,trivial⟩ ⟨Gw N,trivial⟩)
def kH:Sig:=.of [H6] [Dp,Dp] (fun a=>kG N a)
theorem oM:Dn 114 (kH N):=Dt (Dq [(97,Ii N),(183,P5 N)] []) ⟨[],[]⟩ Tryz.f114 N (Dk ⟨HY N,PU N,trivial⟩)
def oI:Sig:=.of [Dw] [Dp,Dp] (fun a=>AaX N a)
theorem Ace:Dn 350 (oI N):=Dt (Dq [(95,JZ N),(183,P5 N)] []) ⟨[],[]⟩ Tryz.f350 N (Dk ⟨IK N,PU N,trivial⟩)
def V5:Sig:=.of [Dw,Dp] [Dp,Dp] (fun a=>Uh N a.1 a.2)
theorem XL:Dn 288 (V5 N):=Dt (Dq [(55,IA N),(165,Js N)] []) ⟨[],[]⟩ Tryz.f288 N (Dk ⟨Gv N,IZ N,trivial⟩)
def Ad8:List (Nat×Nrm):=[(3,⟨[],[],[],[],[]⟩),(18,⟨[2,3,15,16],[],[],[],[]⟩)]
def Af4:Lk:=⟨[],[(18,⟨[(2,.c AL),(3,.c AP),(15,.i),(16,.c x64)],[(33280,.box [Bi]),(33536,.box [Bi])]⟩,[(0,⟨[],[]⟩)])]⟩
def fP:Sig:=.of [Sq2,Sq2] [DJ] (fun a=>XU N a.1 a.2)
theorem Aa5:Dn 148 (fP N):=Dt (Dq [(215,vW N)] Ad8) Af4 Tryz.f148 N (Dk ⟨AdA N,trivial⟩)
def Afv:List (Nat×Nrm):=[(3,⟨[6,7],[],[],[],[]⟩),(37,⟨[4,6,7],[],[],[(38144,1000000),(39680,1000000)],[]⟩),(42,⟨[6,7,38,39,40],[],[],[(44544,1000000)],[]⟩)]
def Ahk:Lk:=⟨[(37,⟨[(4,.c AU),(6,.c x64),(7,.c (xo 1000000))],[(33792,.box BZ),(1000000,.arr 5 false Aw)]⟩)],[(42,⟨[(6,.i),(7,.c (xo 1000000)),(38,.c (xo 42496)),(39,.i),(40,.c x64)],[(42496,.arr 3 false Au),(1000000,.arr 5 false Aw)]⟩,[(0,⟨[(6,.i),(7,.c (xo 1000000))],[(1000000,.arr 5 false Aw)]⟩)])]⟩
def V6:Sig:=.of [Dp] [Dw,Dp] (fun a=>OU N a)
theorem XN:Dn 125 (V6 N):=Dt (Dq [(197,vM N),(198,Ad4 N),(94,Jj N)] Afv) Ahk Tryz.f125 N (Dk ⟨Adz N,Ahm N,Hz N,trivial⟩)
def UN:Sig:=.of [Dw] [Dw,Dp] (fun a=>XK N a)
theorem fC:Dn 287 (UN N):=Dt (Dq [(60,Ey N),(37,Eh N)] [] [(34,Gy N)]) ⟨[],[]⟩ Tryz.f287 N (Dk ⟨Em N,DZ N,trivial⟩ ⟨Gw N,trivial⟩)
def P6:Sig:=.of [Sq2,Sq2] [DJ] (fun a=>LX N a.1 a.2)
theorem PV:Dn 80 (P6 N):=Dt (Dq [(148,fP N)] []) ⟨[],[]⟩ Tryz.f80 N (Dk ⟨Aa5 N,trivial⟩)
def Ahq:List (Nat×Nrm):=[(3,⟨[5],[([5],9,Aq,1004096)],[],[(1000000,1004096)],[]⟩),(26,⟨[5,17,18,19],[([5],9,Aq,1000000)],[],[(41216,1000000)],[]⟩)]
def AiR:Lk:=⟨[],[(26,⟨[(5,.c (xo 1000000)),(17,.i),(18,.i),(19,.c x64)],[(1000000,.arr 9 false Aq)]⟩,[(0,⟨[(5,.c (xo 1004096))],[(1004096,.arr 9 false Aq)]⟩)])]⟩
def XY:Sig:=.of [.cell false (.sl 220 Tq4)] [Dw,Dp] (fun a=>kS N a)
theorem Zx:Dn 126 (XY N):=Dt (Dq [(170,aV N),(199,Zz N),(94,Jj N)] Ahq) AiR Tryz.f126 N (Dk ⟨fU N,wE N,Hz N,trivial⟩)
def Zi:Sig:=.of [H6] [Dp,Dp,Dp] (fun a=>oC N a)
theorem uD:Dn 101 (Zi N):=Dt (Dq [(167,AaW N),(37,Eh N)] [] [(166,FM N)]) ⟨[],[]⟩ Tryz.f101 N (Dk ⟨Afh N,DZ N,trivial⟩ ⟨GK N,trivial⟩)
def Aa8:List (Nat×Nrm):=[(3,⟨[2,4,7,8],[],[],[],[]⟩),(50,⟨[2,4,7,8,35,36,37],[],[],[],[]⟩)]
def Aco:Lk:=⟨[],[(50,⟨[(2,.c AL),(4,.c AU),(7,.c Bl),(8,.c AZ),(35,.c (xo 41728)),(36,.i),(37,.c x64)],[(33280,.box BM),(33792,.box BM),(34816,.box [x64,xs,xs]),(41728,.arr 300 false (.fn .nil))]⟩,[(0,⟨[(2,.c AL),(4,.c AU),(7,.c Bl),(8,.c AZ)],[(33280,.box BM),(33792,.box BM),(34816,.box [x64,xs,xs])]⟩)])]⟩
def Yh:Sig:=.of [Dw] [Ie,Dp] (fun a=>gQ N a)
theorem rM:Dn 168 (Yh N):=Dt (Dq [(95,JZ N),(58,FV N)] Aa8 [] [(45,Ag9 N)]) Aco Tryz.f168 N (Dk ⟨IK N,Fz N,trivial⟩ trivial ⟨Amf N,trivial⟩)
def aK:List (Nat×Nrm):=[(3,⟨[6],[],[],[(261,1004096),(1000000,1004096)],[]⟩),(10,⟨[1,5,6],[],[],[(261,1000000),(40960,1000000)],[]⟩)]
def dY:Lk:=⟨[],[(10,⟨[(1,.c (.c (.ptr 256 0))),(5,.c (.c (.ptr 35328 0))),(6,.c x64)],[(256,.box [xb,xb,x64,x64,(xo 1000000),(xo 262),(xo 263),x64,x64,x64,Bf,xb,Bf,Bf,xs,xs,Bg,Bg,(xo 275)]),(262,.arr 9 true Aq),(263,.arr 288 true (.str Aq)),(275,.arr 220 true Tq4),(35328,.box [Bl]),(1000000,.arr 9 true Aq)]⟩,[(0,⟨[(6,.c x64)],[(256,.box [xb,xb,x64,x64,(xo 1004096),(xo 262),(xo 263),x64,x64,x64,Bf,xb,Bf,Bf,xs,xs,Bg,Bg,(xo 275)]),(262,.arr 9 true Aq),(263,.arr 288 true (.str Aq)),(275,.arr 220 true Tq4),(1004096,.arr 9 true Aq)]⟩)])]⟩
def dZ:Sig:=.of [Dw,O5] [Dp] (fun a=>MC N a.1 a.2)
theorem XE:Spec Tryz.prog 249 (dZ N):=I5 (C:=ctx Tryz.prog [(184,FZ N),(342,MP N)] aK [(341,Jn N)]) (L:=dY) (fn:=Tryz.f249) (N:=N+1) (Dk ⟨FQ N,Nh N,trivial⟩ ⟨Lm N,trivial⟩)
def qP:List (Nat×Nrm):=[(3,⟨[],[],[],[(517,1012336),(518,1012320),(519,1012304),(531,1012288),(1000000,1012288),(1000016,1012304),(1000032,1012320),(1000048,1012336)],[]⟩),(11,⟨[1,2,7,9,11],[([11],9,Aq,1008192)],[],[(517,1008256),(518,1008240),(519,1008224),(531,1008208),(1004096,1008192),(1004112,1008208),(1004128,1008224),(1004144,1008240),(1004160,1008256)],[]⟩),(18,⟨[1,2,7],[],[],[(517,1000048),(518,1000032),(519,1000016),(531,1000000),(617,1000048),(618,1000032),(619,1000016),(631,1000000)],[]⟩),(38,⟨[1,2,7,9,11],[([11],9,Aq,1004096)],[],[(517,1004160),(518,1004144),(519,1004128),(531,1004112),(45312,1004096),(1000000,1004112),(1000016,1004128),(1000032,1004144),(1000048,1004160)],[]⟩)]
def uK:Lk:=⟨[],[(18,⟨[(1,.i),(2,.c (.c (.clo 345 512))),(7,.c AX)],[(512,.box BG),(37120,.box [Bl]),(1000000,.arr 220 true Tq4),(1000016,.arr 288 true (.str Aq)),(1000032,.arr 9 true Aq),(1000048,.arr 9 true Aq)]⟩,[(0,⟨[],[(512,.box BJ),(1012288,.arr 220 true Tq4),(1012304,.arr 288 true (.str Aq)),(1012320,.arr 9 true Aq),(1012336,.arr 9 true Aq)]⟩)]),(38,⟨[(1,.i),(2,.c (.c (.clo 345 512))),(7,.c AX),(9,.c Be),(11,.c (xo 1004096))],[(512,.box BK),(37120,.box [Bl]),(39936,.box [Bl]),(1004096,.arr 9 false Aq),(1004112,.arr 220 true Tq4),(1004128,.arr 288 true (.str Aq)),(1004144,.arr 9 true Aq),(1004160,.arr 9 true Aq)]⟩,[(2,⟨[(1,.i),(2,.c (.c (.clo 345 512))),(7,.c AX),(9,.c Be),(11,.c (xo 1008192))],[(512,.box BL),(37120,.box [Bl]),(39936,.box [Bl]),(1008192,.arr 9 false Aq),(1008208,.arr 220 true Tq4),(1008224,.arr 288 true (.str Aq)),(1008240,.arr 9 true Aq),(1008256,.arr 9 true Aq)]⟩)])]⟩
def UK:Sig:=.of [Dw,Dp,ArV] [Dp] (fun a=>XF N a.1 a.2.1 a.2.2)
theorem eG:Spec Tryz.prog 343 (UK N):=I5 (C:=ctx Tryz.prog [(184,FZ N),(342,MP N),(37,Eh N)] qP [(341,Jn N),(166,FM N)] [(55,Ai9 N)]) (L:=uK) (fn:=Tryz.f343) (N:=N+1) (Dk ⟨FQ N,Nh N,DZ N,trivial⟩ ⟨Lm N,GK N,trivial⟩ ⟨AnB N,trivial⟩)
def qQ:List (Nat×Nrm):=[(3,⟨[],[],[],[(517,1012336),(518,1012320),(519,1012304),(531,1012288),(1000000,1012288),(1000016,1012304),(1000032,1012320),(1000048,1012336)],[]⟩),(11,⟨[1,2,7,9,11],[([11],9,Aq,1008192)],[],[(517,1008256),(518,1008240),(519,1008224),(531,1008208),(1004096,1008192),(1004112,1008208),(1004128,1008224),(1004144,1008240),(1004160,1008256)],[]⟩),(18,⟨[1,2,7],[],[],[(517,1000048),(518,1000032),(519,1000016),(531,1000000),(617,1000048),(618,1000032),(619,1000016),(631,1000000)],[]⟩),(38,⟨[1,2,7,9,11],[([11],9,Aq,1004096)],[],[(517,1004160),(518,1004144),(519,1004128),(531,1004112),(45312,1004096),(1000000,1004112),(1000016,1004128),(1000032,1004144),(1000048,1004160)],[]⟩)]
def uM:Lk:=⟨[],[(18,⟨[(1,.i),(2,.c (.c (.clo 346 512))),(7,.c AX)],[(512,.box BG),(37120,.box [Bl]),(1000000,.arr 220 true Tq4),(1000016,.arr 288 true (.str Aq)),(1000032,.arr 9 true Aq),(1000048,.arr 9 true Aq)]⟩,[(0,⟨[],[(512,.box BJ),(1012288,.arr 220 true Tq4),(1012304,.arr 288 true (.str Aq)),(1012320,.arr 9 true Aq),(1012336,.arr 9 true Aq)]⟩)]),(38,⟨[(1,.i),(2,.c (.c (.clo 346 512))),(7,.c AX),(9,.c Be),(11,.c (xo 1004096))],[(512,.box BK),(37120,.box [Bl]),(39936,.box [Bl]),(1004096,.arr 9 false Aq),(1004112,.arr 220 true Tq4),(1004128,.arr 288 true (.str Aq)),(1004144,.arr 9 true Aq),(1004160,.arr 9 true Aq)]⟩,[(2,⟨[(1,.i),(2,.c (.c (.clo 346 512))),(7,.c AX),(9,.c Be),(11,.c (xo 1008192))],[(512,.box BL),(37120,.box [Bl]),(39936,.box [Bl]),(1008192,.arr 9 false Aq),(1008208,.arr 220 true Tq4),(1008224,.arr 288 true (.str Aq)),(1008240,.arr 9 true Aq),(1008256,.arr 9 true Aq)]⟩)])]⟩
def UL:Sig:=.of [Dw,Dp,ArW] [Dp] (fun a=>XG N a.1 a.2.1 a.2.2)
theorem eH:Spec Tryz.prog 343 (UL N):=I5 (C:=ctx Tryz.prog [(184,FZ N),(342,MP N),(37,Eh N)] qQ [(341,Jn N),(166,FM N)] [(55,AiA N)]) (L:=uM) (fn:=Tryz.f343) (N:=N+1) (Dk ⟨FQ N,Nh N,DZ N,trivial⟩ ⟨Lm N,GK N,trivial⟩ ⟨AnD N,trivial⟩)
def jS:List (Nat×Nrm):=[(22,⟨[5,25,26,27],[],[],[],[]⟩)]
def qN:Sig:=.of [Dw,O5] [Dp] (fun a=>O9 N a.1 a.2)
theorem aI:Spec Tryz.prog 258 (qN N):=I5 (C:=ctx Tryz.prog [(57,Fb N),(338,Lp N),(37,Eh N)] jS [(341,Jn N)]) (L:=⟨[],[]⟩) (fn:=Tryz.f258) (N:=N+9) (Dk ⟨EP N,MF N,DZ N,trivial⟩ ⟨Lm N,trivial⟩)
def AiE:List (Nat×Nrm):=[(3,⟨[],[],[],[],[]⟩),(10,⟨[2,4,9,10,11],[],[],[],[]⟩)]
def Ak0:Lk:=⟨[],[(10,⟨[(2,.i),(4,.c AU),(9,.i),(10,.i),(11,.c x64)],[(33792,.box [Bi])]⟩,[(0,⟨[],[]⟩)])]⟩
def AaY:Sig:=.of [.cell false (.sl 159 Tq3),Sq2,Dp] [Dp] (fun a=>Ag7 N a.1 a.2.1 a.2.2)
theorem Afr:Dn 191 (AaY N):=Dt (Dq [(80,P6 N)] AiE) Ak0 Tryz.f191 N (Dk ⟨PV N,trivial⟩)
def Adh:List (Nat×Nrm):=[(3,⟨[2,4],[],[(some 33792,0,Aq),(some 33792,1,Aq)],[(33795,1012288),(1000000,1012288)],[]⟩),(11,⟨[2,4,5,12,13,14],[],[],[(33795,1008192),(1004096,1008192)],[]⟩),(18,⟨[2,4,5,12,13,14],[],[(some 33792,0,Aq),(some 33792,1,Aq)],[(33795,1000000),(1008192,1000000)],[]⟩),(38,⟨[2,4,5,12,13,14,31,32,33],[],[],[(33795,1004096),(44800,1004096),(1000000,1004096)],[]⟩)]
def Afd:Lk:=⟨[],[(18,⟨[(2,.c AL),(4,.c AU),(5,.c (xo 35584)),(12,.i),(13,.i),(14,.c x64)],[(33280,.box BD),(33281,.D5 9 false Aq),(33282,.D5 9 false Aq),(33283,.D5 32 false (.str Aq)),(33792,.box [Bh,Bh,(xo 1000000)]),(35584,.mp (.str Aq) A7),(1000000,.arr 32 false (.str Aq))]⟩,[(0,⟨[(2,.c AL),(4,.c AU)],[(33280,.box BD),(33281,.D5 9 false Aq),(33282,.D5 9 false Aq),(33283,.D5 32 false (.str Aq)),(33792,.box [Bh,Bh,(xo 1012288)]),(1012288,.arr 32 false (.str Aq))]⟩)]),(38,⟨[(2,.c AL),(4,.c AU),(5,.c (xo 35584)),(12,.i),(13,.i),(14,.i),(31,.i),(32,.i),(33,.c x64)],[(33280,.box BD),(33281,.D5 9 false Aq),(33282,.D5 9 false Aq),(33283,.D5 32 false (.str Aq)),(33792,.box [Bh,Bh,(xo 1004096)]),(35584,.mp (.str Aq) A7),(1004096,.arr 32 false (.str Aq))]⟩,[(2,⟨[(2,.c AL),(4,.c AU),(5,.c (xo 35584)),(12,.i),(13,.i),(14,.i)],[(33280,.box BD),(33281,.D5 9 false Aq),(33282,.D5 9 false Aq),(33283,.D5 32 false (.str Aq)),(33792,.box [Bh,Bh,(xo 1008192)]),(35584,.mp (.str Aq) A7),(1008192,.arr 32 false (.str Aq))]⟩)])]⟩
def dI:Sig:=.of [.cell false (.sl 38 Tq6)] [jI,Dp] (fun a=>KH N a)
theorem Aam:Dn 16 (dI N):=Dt (Dq [(39,Wi N),(40,H9 N),(30,NM N)] Adh) Afd Tryz.f16 N (Dk ⟨jM N,Ir N,O7 N,trivial⟩)
def Ad6:List (Nat×Nrm):=[(3,⟨[2,4,8],[],[],[(34817,1004096),(1000000,1004096)],[]⟩),(50,⟨[2,4,8,37,38,39],[],[],[(34817,1000000),(47104,1000000)],[]⟩)]
def Af2:Lk:=⟨[],[(50,⟨[(2,.c AL),(4,.c AU),(8,.c AZ),(37,.i),(38,.i),(39,.c x64)],[(33280,.box BP),(33281,.D5 120 false Ar),(33792,.box [(xo 33793)]),(33793,.D5 120 false Ar),(34816,.box [(xo 1000000)]),(1000000,.arr 120 false Ar)]⟩,[(0,⟨[(2,.c AL),(4,.c AU),(8,.c AZ)],[(33280,.box BP),(33281,.D5 120 false Ar),(33792,.box [(xo 33793)]),(33793,.D5 120 false Ar),(34816,.box [(xo 1004096)]),(1004096,.arr 120 false Ar)]⟩)])]⟩
def NS:Sig:=.of [Dw] [Sq2,Dp] (fun a=>QS N a)
theorem OC:Dn 113 (NS N):=Dt (Dq [(95,JZ N),(58,FV N),(182,OW N),(108,Hw N)] Ad6) Af2 Tryz.f113 N (Dk ⟨IK N,Fz N,Xd N,G6 N,trivial⟩)
def Adl:Sig:=.of [H6] [Ie,Dp] (fun a=>Ai5 N a)
theorem Ahh:Dn 102 (Adl N):=Dt (Dq [(60,Ey N),(168,Yh N)] []) ⟨[],[]⟩ Tryz.f102 N (Dk ⟨Em N,rM N,trivial⟩)
def JE:Sig:=.of [Sq5,DJ] [Dp] (fun a=>LY N a.1 a.2)
theorem Jz:Dn 187 (JE N):=Dt (Dq [(149,AdL N),(108,Hw N),(291,UR N)] []) ⟨[],[]⟩ Tryz.f187 N (Dk ⟨Ahr N,G6 N,fZ N,trivial⟩)
def dX:Sig:=.of [Dw,O5] [Dp] (fun a=>MB N a.1 a.2)
theorem XD:Dn 252 (dX N):=Dt (Dq [(343,UK N)] []) ⟨[],[]⟩ Tryz.f252 N (Dk ⟨eG N,trivial⟩)
def dV:Sig:=.of [Dw,O5] [Dp] (fun a=>Me N a.1 a.2)
theorem XC:Dn 255 (dV N):=Dt (Dq [(343,UL N)] []) ⟨[],[]⟩ Tryz.f255 N (Dk ⟨eH N,trivial⟩)
def XI:Sig:=.of [Sq6,Dp] [Dp] (fun a=>eY N a.1 a.2)
theorem rE:Dn 120 (XI N):=Dt (Dq [(117,kF N),(189,vG N),(108,Hw N),(190,fE N),(80,P6 N),(191,AaY N)] []) ⟨[],[]⟩ Tryz.f120 N (Dk ⟨oK N,Adx N,G6 N,Aaz N,PV N,Afr N,trivial⟩)
def Ad7:List (Nat×Nrm):=[(3,⟨[5],[([5],9,Aq,1012288)],[],[(1000000,1012288)],[]⟩),(11,⟨[5,8,21,22,23],[([8],9,Aq,1008192),([5],9,Aq,1008208)],[],[(1004096,1008192),(1004112,1008208)],[]⟩),(26,⟨[5,21,22,23],[([5],9,Aq,1000000)],[],[(47872,1000000)],[]⟩),(42,⟨[5,8,21,22,23,27,28,29],[([8],9,Aq,1004096),([5],9,Aq,1004112)],[],[(44032,1004096),(1000000,1004112)],[]⟩)]
def Af3:Lk:=⟨[],[(26,⟨[(5,.c (xo 1000000)),(21,.i),(22,.i),(23,.c x64)],[(1000000,.arr 9 false Aq)]⟩,[(0,⟨[(5,.c (xo 1012288))],[(1012288,.arr 9 false Aq)]⟩)]),(42,⟨[(5,.c (xo 1004112)),(8,.c (xo 1004096)),(21,.i),(22,.i),(23,.i),(27,.i),(28,.i),(29,.c x64)],[(1004096,.arr 9 false Aq),(1004112,.arr 9 false Aq)]⟩,[(2,⟨[(5,.c (xo 1008208)),(8,.c (xo 1008192)),(21,.i),(22,.i),(23,.i)],[(1008192,.arr 9 false Aq),(1008208,.arr 9 false Aq)]⟩)])]⟩
def TU:Sig:=.of [Sq2] [Dw,Dp] (fun a=>XT N a)
theorem Wu:Dn 124 (TU N):=Dt (Dq [(108,Hw N),(195,Ov N),(196,dA N),(94,Jj N)] Ad7) Af3 Tryz.f124 N (Dk ⟨G6 N,VC N,Agv N,Hz N,trivial⟩)
def AcM:List (Nat×Nrm):=[(3,⟨[],[],[],[],[]⟩),(11,⟨[32,33,34],[],[],[],[]⟩),(26,⟨[32,33,34],[],[],[],[]⟩),(38,⟨[32,33,34,38,39,40],[],[],[],[]⟩)]
def AeM:Lk:=⟨[],[(26,⟨[(32,.c (xo 40960)),(33,.i),(34,.c x64)],[(40960,.arr 61 false (.sl 170 Tq1 .nil))]⟩,[(0,⟨[],[]⟩)]),(38,⟨[(32,.c (xo 40960)),(33,.i),(34,.i),(38,.i),(39,.i),(40,.c x64)],[(40960,.arr 61 false (.sl 170 Tq1 .nil))]⟩,[(2,⟨[(32,.c (xo 40960)),(33,.i),(34,.i)],[(40960,.arr 61 false (.sl 170 Tq1 .nil))]⟩)])]⟩
def SH:Sig:=.of [Aiu] [Dp] (fun a=>JG N a)
theorem Vr:Dn 240 (SH N):=Dt (Dq [(187,JE N)] AcM) AeM Tryz.f240 N (Dk ⟨Jz N,trivial⟩)
def AdK:List (Nat×Nrm):=[(29,⟨[1,2,4,6,11,13],[],[],[],[]⟩),(53,⟨[1,4,6],[],[(some 34304,2,Ar)],[],[]⟩)]
def AfD:Lk:=⟨[(29,⟨[(1,.i),(2,.c AL),(4,.c AU),(6,.c AY),(11,.i),(13,.c xb)],[(33280,.box [x64,xs,xs]),(33792,.box [A8,AA,(xo 33795)]),(33795,.D5 120 false Ar),(34304,.box [A8,AA,(xo 34307)]),(34307,.D5 120 false Ar)]⟩),(53,⟨[(1,.i),(4,.c AU),(6,.c AY)],[(33792,.box [A8,AA,(xo 33795)]),(33795,.D5 120 false Ar),(34304,.box [x64,xs,Bi])]⟩)],[]⟩
def TV:Sig:=.of [Ie,DJ] [Sq5,Dp] (fun a=>XZ N a.1 a.2)
theorem Wv:Dn 387 (TV N):=Dt (Dq [(113,NS N),(187,JE N)] AdK) AfD Tryz.f387 N (Dk ⟨OC N,Jz N,trivial⟩)
def Aav:List (Nat×Nrm):=[(7,⟨[],[],[],[],[]⟩),(21,⟨[3,34],[],[],[],[]⟩),(46,⟨[66,67,68],[],[],[],[]⟩)]
def Acb:Lk:=⟨[(21,⟨[(3,.c AP),(34,.c xb)],[(33536,.box [Bf,xb,xb,x64,xb])]⟩)],[(46,⟨[(66,.i),(67,.i),(68,.c x64)],[]⟩,[(1,⟨[],[]⟩)])]⟩
def XJ:Sig:=.of [Sq6] [Dp] (fun a=>fA N a)
theorem rF:Dn 118 (XJ N):=Dt (Dq [(187,JE N)] Aav [] [] [] [14,18,19,23,24,28,29,33,44,46,49,52,53,54]) Acb Tryz.f118 N (Dk ⟨Jz N,trivial⟩)
def NW:Sig:=.of [Sq5,DJ] [Dw,Dp] (fun a=>QY N a.1 a.2)
theorem OD:Dn 193 (NW N):=Dt (Dq [(187,JE N),(94,Jj N),(124,TU N)] []) ⟨[],[]⟩ Tryz.f193 N (Dk ⟨Jz N,Hz N,Wu N,trivial⟩)
def oQ:Sig:=.of [] [DJ] (fun _=>OX N)
theorem Acp:Dn 19 (oQ N):=Dt (Dq [(13,QE N),(14,QD N)] [] [] [] [] [25,28,29,32,33,36,37,42,43,49]) ⟨[],[]⟩ Tryz.f19 N (Dk ⟨UC N,UB N,trivial⟩)
def yL:List (Nat×Nrm):=[(3,⟨[],[],[],[],[]⟩),(94,⟨[1,104,105],[],[],[],[]⟩)]
def AaI:Lk:=⟨[],[(94,⟨[(1,.c AO),(104,.i),(105,.c x64)],[(33024,.box BA)]⟩,[(0,⟨[],[]⟩)])]⟩
def WI:Sig:=.of [Sq6] [Dp] (fun a=>ZN N a)
theorem mY:Dn 70 (WI N):=Dt (Dq [(128,Gg N),(129,Vk N),(130,J8 N),(131,Vj N)] yL [] [] [] [22,26,27,31,32,36,37,43,47,51,52,56,57,61,62,66,72,73]) AaI Tryz.f70 N (Dk ⟨FU N,iZ N,Kw N,iW N,trivial⟩)
def OL:Sig:=.of [Sq2] [Dw] (fun a=>Sr N a)
theorem Su:Dn 139 (OL N):=Dt (Dq [(209,JR N)] []) ⟨[],[]⟩ Tryz.f139 N (Dk ⟨KW N,trivial⟩)
def OM:Sig:=.of [.cell false (.sl 170 Tq1)] [Dw] (fun a=>Sv N a)
theorem Sz:Dn 141 (OM N):=Dt (Dq [(209,JR N),(132,EL N)] []) ⟨[],[]⟩ Tryz.f141 N (Dk ⟨KW N,E8 N,trivial⟩)
def Ajw:List (Nat×Nrm):=[(7,⟨[2,3],[],[],[(33652,1036864),(1020480,1036864)],[1036864]⟩),(17,⟨[0,2,3],[],[],[],[]⟩),(25,⟨[0,2,3],[],[],[],[]⟩),(33,⟨[0,2,3],[],[],[],[]⟩),(69,⟨[0,2,3],[],[(some 33536,9,Tq1)],[],[]⟩),(77,⟨[0,2,3],[],[(some 33536,14,Tq2)],[],[]⟩),(82,⟨[0,2,3,4],[],[],[(33652,1020480),(69632,1020480),(1032768,1020480)],[1020480]⟩),(101,⟨[0,2,3,4,5],[],[],[(33652,1024576),(1020480,1024576)],[1024576]⟩),(109,⟨[0,2,3,4,5],[],[],[(33652,1028672),(1024576,1028672)],[1028672]⟩),(117,⟨[0,2,3,4,5],[],[],[(33652,1032768),(1028672,1032768)],[1032768]⟩)]
def AkN:Lk:=⟨[(17,⟨[(0,.c AQ),(2,.c AL),(3,.c AP)],[(0,.box BF),(33280,.box BB),(33283,.D5 120 false Ar),(33290,.D5 170 false Tq1),(33295,.D5 230 false Tq2),(33296,.D5 159 false Tq3),(33536,.box [AA,AA,Bi,x64,x64,x64,(.c (.int .i64 (-1))),AA,AB,(xo 33646),AB,AB,A8,AB,(xo 33651),(xo 33652),AA]),(33646,.D5 170 false Tq1),(33651,.D5 230 false Tq2),(33652,.D5 159 false Tq3)]⟩),(25,⟨[(0,.c AQ),(2,.c AL),(3,.c AP)],[(0,.box BF),(33280,.box BB),(33283,.D5 120 false Ar),(33290,.D5 170 false Tq1),(33295,.D5 230 false Tq2),(33296,.D5 159 false Tq3),(33536,.box [AA,AA,Bi,x64,x64,x64,x64,AA,AB,(xo 33646),AB,AB,A8,AB,(xo 33651),(xo 33652),AA]),(33646,.D5 170 false Tq1),(33651,.D5 230 false Tq2),(33652,.D5 159 false Tq3)]⟩),(33,⟨[(0,.c AQ),(2,.c AL),(3,.c AP)],[(0,.box BF),(33280,.box BB),(33283,.D5 120 false Ar),(33290,.D5 170 false Tq1),(33295,.D5 230 false Tq2),(33296,.D5 159 false Tq3),(33536,.box [AA,AA,Bi,x64,x64,x64,x64,xs,AB,(xo 33646),AB,AB,A8,AB,(xo 33651),(xo 33652),AA]),(33646,.D5 170 false Tq1),(33651,.D5 230 false Tq2),(33652,.D5 159 false Tq3)]⟩),(69,⟨[(0,.c AQ),(2,.c AL),(3,.c AP)],[(0,.box BF),(33280,.box BB),(33283,.D5 120 false Ar),(33290,.D5 170 false Tq1),(33295,.D5 230 false Tq2),(33296,.D5 159 false Tq3),(33536,.box [AA,AA,Bi,x64,x64,x64,x64,xs,xb,Bf,xb,xb,x64,xb,(xo 33651),(xo 33652),AA]),(33651,.D5 230 false Tq2),(33652,.D5 159 false Tq3)]⟩),(77,⟨[(0,.c AQ),(2,.c AL),(3,.c AP)],[(0,.box BF),(33280,.box BB),(33283,.D5 120 false Ar),(33290,.D5 170 false Tq1),(33295,.D5 230 false Tq2),(33296,.D5 159 false Tq3),(33536,.box [AA,AA,Bi,x64,x64,x64,x64,xs,xb,Bf,xb,xb,x64,xb,Bg,(xo 33652),AA]),(33652,.D5 159 false Tq3)]⟩),(101,⟨[(0,.c AQ),(2,.c AL),(3,.c AP),(4,.i),(5,.c AV)],[(0,.box BF),(33280,.box BB),(33283,.D5 120 false Ar),(33290,.D5 170 false Tq1),(33295,.D5 230 false Tq2),(33296,.D5 159 false Tq3),(33536,.box [AA,AA,Bi,x64,x64,x64,x64,xs,xb,Bf,xb,xb,x64,xb,Bg,(xo 1024576),AA]),(34048,.box BH),(1024576,.arr 159 true Tq3)]⟩),(109,⟨[(0,.c AQ),(2,.c AL),(3,.c AP),(4,.i),(5,.c AV)],[(0,.box BF),(33280,.box BB),(33283,.D5 120 false Ar),(33290,.D5 170 false Tq1),(33295,.D5 230 false Tq2),(33296,.D5 159 false Tq3),(33536,.box [AA,AA,Bi,x64,x64,x64,x64,xs,xb,Bf,xb,xb,x64,xb,Bg,(xo 1028672),AA]),(34048,.box BH),(1028672,.arr 159 true Tq3)]⟩),(117,⟨[(0,.c AQ),(2,.c AL),(3,.c AP),(4,.i),(5,.c AV)],[(0,.box BF),(33280,.box BB),(33283,.D5 120 false Ar),(33290,.D5 170 false Tq1),(33295,.D5 230 false Tq2),(33296,.D5 159 false Tq3),(33536,.box [AA,AA,Bi,x64,x64,x64,x64,xs,xb,Bf,xb,xb,x64,xb,Bg,(xo 1032768),AA]),(34048,.box BH),(1032768,.arr 159 true Tq3)]⟩)],[(82,⟨[(0,.c AQ),(2,.c AL),(3,.c AP),(4,.c x64)],[(0,.box BF),(33280,.box BB),(33283,.D5 120 false Ar),(33290,.D5 170 false Tq1),(33295,.D5 230 false Tq2),(33296,.D5 159 false Tq3),(33536,.box [AA,AA,Bi,x64,x64,x64,x64,xs,xb,Bf,xb,xb,x64,xb,Bg,(xo 1020480),AA]),(1020480,.arr 159 true Tq3)]⟩,[(1,⟨[(2,.c AL),(3,.c AP)],[(0,.box BF),(33280,.box BB),(33283,.D5 120 false Ar),(33290,.D5 170 false Tq1),(33295,.D5 230 false Tq2),(33296,.D5 159 false Tq3),(33536,.box [AA,AA,Bi,x64,x64,x64,x64,xs,xb,Bf,xb,xb,x64,xb,Bg,(xo 1036864),AA]),(1036864,.arr 159 true Tq3)]⟩)])]⟩
def Abn:Sig:=.of [Sq1] [Sq6] (fun a=>xJ N a)
theorem AfQ:Dn 49 (Abn N):=Dt (Dq [(6,Ez N),(22,L8 N),(84,bI N),(85,Ob N),(86,VK N),(87,WL N)] Ajw) AkN Tryz.f49 N (Dk ⟨Ei N,MK N,gW N,OE N,Yl N,nH N,trivial⟩)
def yK:List (Nat×Nrm):=[(3,⟨[],[],[],[],[]⟩),(93,⟨[1],[],[],[],[]⟩),(138,⟨[1,134,135,136],[],[],[],[]⟩)]
def AaH:Lk:=⟨[(93,⟨[(1,.c AO)],[(33024,.box Bz)]⟩)],[(138,⟨[(1,.c AO),(134,.i),(135,.i),(136,.c x64)],[(33024,.box Bz)]⟩,[(0,⟨[],[]⟩)])]⟩
def OJ:Sig:=.of [Jd] [Dp] (fun a=>RZ N a)
theorem Si:Dn 221 (OJ N):=Dt (Dq [(318,yV N),(319,WN N),(320,Q7 N),(204,JV N),(321,KT N),(130,J8 N),(322,pV N),(302,Io N),(323,pW N),(324,YD N),(325,VP N)] yK [] [] [] [17,21,22,26,30,31,36,41,42,47,48,53,54,58,59,63]) AaH Tryz.f221 N (Dk ⟨AeI N,nM N,YG N,KY N,ND N,Kw N,AcF N,Ib N,AcG N,ZQ N,Yw N,trivial⟩)
def Pj:Sig:=.of [Aiu] [Dw,Dp] (fun a=>RY N a)
theorem Xj:Dn 327 (Pj N):=Dt (Dq [(321,KT N),(381,yJ N),(74,I4 N)] []) ⟨[],[]⟩ Tryz.f327 N (Dk ⟨ND N,AeD N,GR N,trivial⟩)
def AaT:Sig:=.of [H6] [Sq2,Dp] (fun a=>uB N a)
theorem Aff:Dn 100 (AaT N):=Dt (Dq [(60,Ey N),(113,NS N)] []) ⟨[],[]⟩ Tryz.f100 N (Dk ⟨Em N,OC N,trivial⟩)
def dP:List (Nat×Nrm):=[(3,⟨[],[],[],[],[]⟩),(10,⟨[6,7,8],[],[],[],[]⟩)]
def jP:Lk:=⟨[],[(10,⟨[(6,.i),(7,.i),(8,.c x64)],[]⟩,[(0,⟨[],[]⟩)])]⟩
def Lj:Sig:=.of [.cell false (.sl 170 Tq1)] [Dp] (fun a=>Nc N a)
theorem Ot:Dn 178 (Lj N):=Dt (Dq [(187,JE N)] dP) jP Tryz.f178 N (Dk ⟨Jz N,trivial⟩)
def Agp:List (Nat×Nrm):=[(17,⟨[2,3,5],[([5],220,Tq4,1000000)],[],[(37888,1000000)],[]⟩),(29,⟨[2,3,5],[],[],[(41472,1004096),(1000000,1004096)],[]⟩),(37,⟨[2,5],[],[],[(45056,1008192),(1004096,1008192)],[]⟩),(49,⟨[2,8],[],[],[],[]⟩)]
def AhR:Lk:=⟨[(17,⟨[(2,.c AL),(3,.c AP),(5,.c (xo 1000000))],[(33280,.box BH),(33536,.box [Bi]),(1000000,.arr 220 false Tq4)]⟩),(29,⟨[(2,.c AL),(3,.c AP),(5,.c (xo 1004096))],[(33280,.box BH),(33536,.box [Bi]),(1004096,.arr 220 false Tq4)]⟩),(37,⟨[(2,.c AL),(5,.c (xo 1008192))],[(33280,.box BH),(1008192,.arr 220 false Tq4)]⟩),(49,⟨[(2,.c AL),(8,.c xs)],[(33280,.box BH)]⟩)],[]⟩
def pX:Sig:=.of [AlB,Sq2] [Dw] (fun a=>Ab5 N a.1 a.2)
theorem AcH:Dn 73 (pX N):=Dt (Dq [(77,Jt N),(72,JP N),(138,KC N),(139,OL N),(132,EL N),(140,J7 N)] Agp) AhR Tryz.f73 N (Dk ⟨Jc N,KR N,LD N,Su N,E8 N,Le N,trivial⟩)
def iU:List (Nat×Nrm):=[(3,⟨[5],[],[],[],[]⟩),(34,⟨[5,17,18,19],[],[],[],[]⟩),(53,⟨[5,7,8,17,18,19],[],[],[],[]⟩)]
def nD:Lk:=⟨[(53,⟨[(5,.i),(7,.c Ba),(8,.c xs),(17,.i),(18,.i),(19,.i)],[(34560,.box Ce)]⟩)],[(34,⟨[(5,.c xs),(17,.i),(18,.i),(19,.c x64)],[]⟩,[(0,⟨[(5,.c xs)],[]⟩)])]⟩
def LG:Sig:=.of [.cell false (.sl 230 Tq2)] [Dw,Dp] (fun a=>NG N a)
theorem Oz:Dn 144 (LG N):=Dt (Dq [(130,J8 N),(139,OL N),(132,EL N),(141,OM N),(143,PG N),(74,I4 N)] iU) nD Tryz.f144 N (Dk ⟨Kw N,Su N,E8 N,Sz N,Qj N,GR N,trivial⟩)
def WH:Sig:=.of [AeV] [Dp] (fun a=>ZM N a)
theorem mX:Dn 153 (WH N):=Dt (Dq [(128,Gg N),(220,Qi N),(221,OJ N)] [] [] [] [] [28,32,33,37,38,42,43,49]) ⟨[],[]⟩ Tryz.f153 N (Dk ⟨FU N,Tm N,Si N,trivial⟩)
def dQ:List (Nat×Nrm):=[(13,⟨[1,4],[],[],[],[]⟩)]
def jQ:Lk:=⟨[(13,⟨[(1,.c AO),(4,.c xb)],[(33024,.box Ce)]⟩)],[]⟩
def QI:Sig:=.of [AqF] [Dp] (fun a=>UI N a)
theorem YR:Dn 188 (QI N):=Dt (Dq [(178,Lj N),(108,Hw N)] dQ) jQ Tryz.f188 N (Dk ⟨Ot N,G6 N,trivial⟩)
def LK:Sig:=.of [Jd] [Dp] (fun a=>Nb N a)
theorem SN:Dn 179 (LK N):=Dt (Dq [(240,SH N)] []) ⟨[],[]⟩ Tryz.f179 N (Dk ⟨Vr N,trivial⟩)
def rH:List (Nat×Nrm):=[(3,⟨[7],[([7],170,Tq1,1004096)],[],[(1000000,1004096)],[]⟩),(38,⟨[7,26,27,28],[([7],170,Tq1,1000000)],[],[(43776,1000000)],[]⟩)]
def wM:Lk:=⟨[],[(38,⟨[(7,.c (xo 1000000)),(26,.i),(27,.i),(28,.c x64)],[(1000000,.arr 170 false Tq1)]⟩,[(0,⟨[(7,.c (xo 1004096))],[(1004096,.arr 170 false Tq1)]⟩)])]⟩
def IB:Sig:=.of [Dw] [.cell false (.sl 170 Tq1),Dp] (fun a=>Ij N a)
theorem IM:Dn 346 (IB N):=Dt (Dq [(58,FV N),(363,VE N),(387,TV N)] rH) wM Tryz.f346 N (Dk ⟨Fz N,Ya N,Wv N,trivial⟩)
def jG:List (Nat×Nrm):=[(3,⟨[6],[([6],170,Tq1,1004096)],[],[(1000000,1004096)],[]⟩),(34,⟨[6,23,24,25],[([6],170,Tq1,1000000)],[],[(48128,1000000)],[]⟩)]
def nV:Lk:=⟨[],[(34,⟨[(6,.c (xo 1000000)),(23,.i),(24,.i),(25,.c x64)],[(1000000,.arr 170 false Tq1)]⟩,[(0,⟨[(6,.c (xo 1004096))],[(1004096,.arr 170 false Tq1)]⟩)])]⟩
def SI:Sig:=.of [Dw] [.cell false (.sl 170 Tq1),Dp] (fun a=>JY N a)
theorem Zf:Dn 389 (SI N):=Dt (Dq [(58,FV N),(387,TV N)] jG) nV Tryz.f389 N (Dk ⟨Fz N,Wv N,trivial⟩)
def Adu:List (Nat×Nrm):=[(17,⟨[0,4,5,7],[([7],220,Tq4,1000000)],[],[(38400,1000000)],[]⟩),(25,⟨[0,4,5,7],[],[],[(41984,1004096),(1000000,1004096)],[]⟩),(37,⟨[0,4,7],[],[],[(47360,1008192),(1004096,1008192)],[]⟩),(49,⟨[0,4,9],[],[],[],[]⟩)]
def Afs:Lk:=⟨[(17,⟨[(0,.c AQ),(4,.c AU),(5,.c AV),(7,.c (xo 1000000))],[(0,.box [xb]),(33792,.box BH),(34048,.box [Bi]),(1000000,.arr 220 false Tq4)]⟩),(25,⟨[(0,.c AQ),(4,.c AU),(5,.c AV),(7,.c (xo 1004096))],[(0,.box [xb]),(33792,.box BH),(34048,.box [Bi]),(1004096,.arr 220 false Tq4)]⟩),(37,⟨[(0,.c AQ),(4,.c AU),(7,.c (xo 1008192))],[(0,.box [xb]),(33792,.box BH),(1008192,.arr 220 false Tq4)]⟩),(49,⟨[(0,.c AQ),(4,.c AU),(9,.c xs)],[(0,.box [xb]),(33792,.box BH)]⟩)],[]⟩
def fG:Sig:=.of [.box [(false,.bool)],AlB,Sq2] [Dw] (fun a=>vC N a.1 a.2.1 a.2.2)
theorem Aa0:Dn 121 (fG N):=Dt (Dq [(192,OI N),(54,Fg N),(125,V6 N),(93,Gf N),(80,P6 N),(193,NW N),(31,G5 N),(126,XY N),(122,Ls N)] Adu) Afs Tryz.f121 N (Dk ⟨RN N,EX N,XN N,FT N,PV N,OD N,Gq N,Zx N,MH N,trivial⟩)
def rJ:List (Nat×Nrm):=[(3,⟨[5],[],[],[],[]⟩),(26,⟨[5,16,17,18],[],[],[],[]⟩)]
def wO:Lk:=⟨[],[(26,⟨[(5,.c xs),(16,.i),(17,.i),(18,.c x64)],[]⟩,[(0,⟨[(5,.c xs)],[]⟩)])]⟩
def Nr:Sig:=.of [.cell false (.sl 170 Tq1)] [Dw,Dp] (fun a=>PX N a)
theorem Qw:Dn 299 (Nr N):=Dt (Dq [(363,VE N),(193,NW N)] rJ) wO Tryz.f299 N (Dk ⟨Ya N,OD N,trivial⟩)
def Zd:List (Nat×Nrm):=[(17,⟨[1,4],[([4],220,Tq4,1000000)],[],[(37888,1000000)],[]⟩),(29,⟨[1,4],[],[],[(39680,1004096),(42240,1004096)],[]⟩),(41,⟨[1,4],[],[],[(49664,1008192),(1004096,1008192)],[]⟩)]
def bZ:Lk:=⟨[(17,⟨[(1,.c AO),(4,.c (xo 1000000))],[(33024,.box BA),(1000000,.arr 220 false Tq4)]⟩),(29,⟨[(1,.c AO),(4,.c (xo 1004096))],[(33024,.box BA),(1004096,.arr 220 false Tq4)]⟩),(41,⟨[(1,.c AO),(4,.c (xo 1008192))],[(33024,.box BA),(1008192,.arr 220 false Tq4)]⟩)],[]⟩
def Pn:Sig:=.of [Sq6] [.cell false (.sl 220 Tq4),Dp] (fun a=>S9 N a)
theorem Xm:Dn 75 (Pn N):=Dt (Dq [(132,EL N),(77,Jt N),(141,OM N),(142,Sj N),(143,PG N),(144,LG N)] Zd) bZ Tryz.f75 N (Dk ⟨E8 N,Jc N,Sz N,Vh N,Qj N,Oz N,trivial⟩)
def sG:List (Nat×Nrm):=[(3,⟨[1,5,7],[],[],[],[]⟩),(11,⟨[1,5,10],[],[],[],[]⟩),(19,⟨[1,5,13],[],[],[],[]⟩),(27,⟨[1,5],[],[],[],[]⟩),(37,⟨[1,5,6],[],[],[],[]⟩),(41,⟨[1,5],[([5],220,Tq4,1000000)],[],[(45312,1000000)],[]⟩),(49,⟨[1,5],[],[],[(47872,1008192),(1000000,1008192)],[]⟩),(62,⟨[1,5,7,65,66,67],[],[],[],[]⟩),(81,⟨[1,5],[],[],[(53760,1012288),(1008192,1012288)],[]⟩),(94,⟨[1,5,10,88,89,90],[],[],[],[]⟩),(113,⟨[1,5],[],[],[(60160,1024576),(1012288,1024576)],[]⟩),(126,⟨[1,5,13,113,114,115],[],[],[],[]⟩),(145,⟨[1,5],[],[],[(67584,1036864),(1024576,1036864)],[]⟩),(161,⟨[1,5,16],[],[],[],[]⟩),(169,⟨[1,5,16],[],[],[],[]⟩),(173,⟨[1,5],[],[],[(75008,1049152),(1036864,1049152)],[]⟩),(181,⟨[1,5],[],[],[(77568,1061440),(1049152,1061440)],[]⟩),(193,⟨[1,5],[],[],[(81920,1065536),(1061440,1065536)],[]⟩),(213,⟨[1,5],[],[],[(86016,1069632),(1065536,1069632)],[]⟩),(221,⟨[1,5],[],[],[(88832,1073728),(1069632,1073728)],[]⟩),(229,⟨[1,5],[],[],[(92160,1077824),(1073728,1077824)],[]⟩),(234,⟨[1,5,237,238,239],[],[],[(100096,1077824)],[]⟩)]
def yM:Lk:=⟨[(37,⟨[(1,.c AO),(5,.c x0),(6,.c xs)],[(33024,.box Bz)]⟩),(41,⟨[(1,.c AO),(5,.c (xo 1000000))],[(33024,.box Bz),(1000000,.arr 220 false Tq4)]⟩),(49,⟨[(1,.c AO),(5,.c (xo 1008192))],[(33024,.box Bz),(1008192,.arr 220 false Tq4)]⟩),(81,⟨[(1,.c AO),(5,.c (xo 1012288))],[(33024,.box Bz),(1012288,.arr 220 false Tq4)]⟩),(113,⟨[(1,.c AO),(5,.c (xo 1024576))],[(33024,.box Bz),(1024576,.arr 220 false Tq4)]⟩),(145,⟨[(1,.c AO),(5,.c (xo 1036864))],[(33024,.box Bz),(1036864,.arr 220 false Tq4)]⟩),(161,⟨[(1,.c AO),(5,.c (xo 1036864)),(16,.c xs)],[(33024,.box Bz),(1036864,.arr 220 false Tq4)]⟩),(169,⟨[(1,.c AO),(5,.c (xo 1036864)),(16,.c xs)],[(33024,.box Bz),(1036864,.arr 220 false Tq4)]⟩),(173,⟨[(1,.c AO),(5,.c (xo 1049152))],[(33024,.box Bz),(1049152,.arr 220 false Tq4)]⟩),(181,⟨[(1,.c AO),(5,.c (xo 1061440))],[(33024,.box Bz),(1061440,.arr 220 false Tq4)]⟩),(193,⟨[(1,.c AO),(5,.c (xo 1065536))],[(33024,.box Bz),(1065536,.arr 220 false Tq4)]⟩),(213,⟨[(1,.c AO),(5,.c (xo 1069632))],[(33024,.box Bz),(1069632,.arr 220 false Tq4)]⟩),(221,⟨[(1,.c AO),(5,.c (xo 1073728))],[(33024,.box Bz),(1073728,.arr 220 false Tq4)]⟩),(229,⟨[(1,.c AO),(5,.c (xo 1077824))],[(33024,.box Bz),(1077824,.arr 220 false Tq4)]⟩)],[(62,⟨[(1,.c AO),(5,.c (xo 1008192)),(7,.c xs),(65,.i),(66,.i),(67,.c x64)],[(33024,.box Bz),(1008192,.arr 220 false Tq4)]⟩,[(0,⟨[(1,.c AO),(5,.c (xo 1008192)),(7,.c xs)],[(33024,.box Bz),(1008192,.arr 220 false Tq4)]⟩)]),(94,⟨[(1,.c AO),(5,.c (xo 1012288)),(10,.c xs),(88,.i),(89,.i),(90,.c x64)],[(33024,.box Bz),(1012288,.arr 220 false Tq4)]⟩,[(2,⟨[(1,.c AO),(5,.c (xo 1012288)),(10,.c xs)],[(33024,.box Bz),(1012288,.arr 220 false Tq4)]⟩)]),(126,⟨[(1,.c AO),(5,.c (xo 1024576)),(13,.c xs),(113,.i),(114,.i),(115,.c x64)],[(33024,.box Bz),(1024576,.arr 220 false Tq4)]⟩,[(4,⟨[(1,.c AO),(5,.c (xo 1024576)),(13,.c xs)],[(33024,.box Bz),(1024576,.arr 220 false Tq4)]⟩)]),(234,⟨[(1,.c AO),(5,.c (xo 1077824)),(237,.c (xo 93440)),(238,.i),(239,.c x64)],[(33024,.box Bz),(93440,.arr 64 false (.sl 230 Tq2 .nil)),(1077824,.arr 220 false Tq4)]⟩,[(6,⟨[(1,.c AO),(5,.c (xo 1077824))],[(33024,.box Bz),(1077824,.arr 220 false Tq4)]⟩)])]⟩
def Vf:Sig:=.of [Jd] [.cell false (.sl 220 Tq4),Dp] (fun a=>YB N a)
theorem iR:Dn 223 (Vf N):=Dt (Dq [(221,OJ N),(142,Sj N),(77,Jt N),(132,EL N),(143,PG N),(146,Pm N),(209,JR N),(327,Pj N),(144,LG N)] sG) yM Tryz.f223 N (Dk ⟨Si N,Vh N,Jc N,E8 N,Qj N,Oi N,KW N,Xj N,Oz N,trivial⟩)
def aA:List (Nat×Nrm):=[(3,⟨[],[],[],[],[]⟩),(18,⟨[9,10,11],[],[],[],[]⟩)]
def dM:Lk:=⟨[],[(18,⟨[(9,.i),(10,.i),(11,.c x64)],[]⟩,[(0,⟨[],[]⟩)])]⟩
def GI:Sig:=.of [.cell false (.sl 230 Tq2)] [Dp] (fun a=>Gp N a)
theorem Hf:Dn 119 (GI N):=Dt (Dq [(188,QI N)] aA) dM Tryz.f119 N (Dk ⟨YR N,trivial⟩)
def uI:Sig:=.of [Dw,O5] [Dp] (fun a=>PR N a.1 a.2)
theorem dW:Dn 264 (uI N):=Dt (Dq [(55,IA N),(346,IB N)] []) ⟨[],[]⟩ Tryz.f264 N (Dk ⟨Gv N,IM N,trivial⟩)
def AaO:List (Nat×Nrm):=[(46,⟨[2,4,5,8,37,38,39],[],[],[],[]⟩)]
def YJ:Sig:=.of [Dw] [Aiu,Dp] (fun a=>jF N a)
theorem sO:Spec Tryz.prog 348 (YJ N):=I5 (C:=ctx Tryz.prog [(95,JZ N),(58,FV N),(240,SH N),(389,SI N)] AaO) (L:=⟨[],[]⟩) (fn:=Tryz.f348) (N:=N+9) (Dk ⟨IK N,Fz N,Vr N,Zf N,trivial⟩)
def aG:List (Nat×Nrm):=[(45,⟨[0,2,4,5],[],[(some 34048,0,Tq1)],[],[]⟩),(73,⟨[0,2,4,5],[],[],[],[]⟩),(105,⟨[0,2,4,5],[],[(some 34048,3,Ar)],[],[]⟩)]
def dR:Lk:=⟨[(45,⟨[(0,.c AQ),(2,.c AL),(4,.c AU),(5,.c AV)],[(0,.box [Bl]),(33280,.box BU),(33281,.D5 170 false Tq1),(33284,.D5 120 false Ar),(33792,.box BV),(33793,.D5 170 false Tq1),(33796,.D5 120 false Ar),(34048,.box [Bf,A8,AB,(xo 34052)]),(34052,.D5 120 false Ar)]⟩),(73,⟨[(0,.c AQ),(2,.c AL),(4,.c AU),(5,.c AV)],[(0,.box [Bl]),(33280,.box BU),(33281,.D5 170 false Tq1),(33284,.D5 120 false Ar),(33792,.box BV),(33793,.D5 170 false Tq1),(33796,.D5 120 false Ar),(34048,.box [Bf,x64,AB,(xo 34052)]),(34052,.D5 120 false Ar)]⟩),(105,⟨[(0,.c AQ),(2,.c AL),(4,.c AU),(5,.c AV)],[(0,.box [Bl]),(33280,.box BU),(33281,.D5 170 false Tq1),(33284,.D5 120 false Ar),(33792,.box BV),(33793,.D5 170 false Tq1),(33796,.D5 120 false Ar),(34048,.box Ce)]⟩)],[]⟩
def Qp:Sig:=.of [H6] [AqF,Dp] (fun a=>Tc N a)
theorem X8:Dn 352 (Qp N):=Dt (Dq [(57,Fb N),(55,IA N),(346,IB N),(339,RD N),(37,Eh N)] aG) dR Tryz.f352 N (Dk ⟨EP N,Gv N,IM N,RF N,DZ N,trivial⟩)
def Zo:Sig:=.of [Dw] [Sq2,Dp] (fun a=>oH N a)
theorem uX:Dn 351 (Zo N):=Dt (Dq [(55,IA N),(346,IB N)] []) ⟨[],[]⟩ Tryz.f351 N (Dk ⟨Gv N,IM N,trivial⟩)
def Adt:List (Nat×Nrm):=[(53,⟨[2,4,5,6],[],[(some 34048,0,Tq1)],[],[]⟩),(105,⟨[2,4,5,6],[],[],[],[]⟩)]
def Afq:Lk:=⟨[(53,⟨[(2,.c AL),(4,.c AU),(5,.c AV),(6,.c Bd)],[(33280,.box [(xo 33281),AB,AB,A8,AB]),(33281,.D5 170 false Tq1),(33792,.box [(xo 33793),AB,AB,A8,AB]),(33793,.D5 170 false Tq1),(34048,.box [Bf,AB,AB,A8,AB]),(36864,.box [Bl])]⟩),(105,⟨[(2,.c AL),(4,.c AU),(5,.c AV),(6,.c Bd)],[(33280,.box [(xo 33281),AB,AB,A8,AB]),(33281,.D5 170 false Tq1),(33792,.box [(xo 33793),AB,AB,A8,AB]),(33793,.D5 170 false Tq1),(34048,.box [Bf,xb,xb,x64,AB]),(36864,.box [Bl])]⟩)],[]⟩
def fD:Sig:=.of [Dw] [Sq3,Dp] (fun a=>uY N a)
theorem Aay:Dn 289 (fD N):=Dt (Dq [(57,Fb N),(55,IA N),(346,IB N),(337,OB N),(339,RD N),(37,Eh N)] Adt [(34,Gy N)]) Afq Tryz.f289 N (Dk ⟨EP N,Gv N,IM N,QR N,RF N,DZ N,trivial⟩ ⟨Gw N,trivial⟩)
def bV:List (Nat×Nrm):=[(3,⟨[1,5,7,9,11],[],[],[],[]⟩),(42,⟨[1,5,7,9,11,12,46,47,48],[],[],[],[]⟩),(81,⟨[1,5,7,9,11],[],[],[],[]⟩)]
def iT:Lk:=⟨[(81,⟨[(1,.c AO),(5,.i),(7,.i),(9,.i),(11,.c xs)],[(33024,.box BA)]⟩)],[(42,⟨[(1,.c AO),(5,.i),(7,.i),(9,.i),(11,.c xs),(12,.c (.c (.ptr 35840 0))),(46,.i),(47,.i),(48,.c x64)],[(33024,.box BA),(35840,.box [Bi])]⟩,[(0,⟨[(1,.c AO),(5,.i),(7,.i),(9,.i),(11,.c xs)],[(33024,.box BA)]⟩)])]⟩
def Q5:Sig:=.of [Sq6] [Dw,Dp] (fun a=>Tq N a)
theorem YC:Dn 44 (Q5 N):=Dt (Dq [(70,WI N),(71,JS N),(72,JP N),(73,pX N),(74,I4 N),(75,Pn N),(76,SA N),(77,Jt N),(78,Ja N)] bV) iT Tryz.f44 N (Dk ⟨mY N,KX N,KR N,AcH N,GR N,Xm N,Vo N,Jc N,Ji N,trivial⟩)
def Vl:Sig:=.of [Dp,Jd] [Dw,Dp] (fun a=>YI N a.1 a.2)
theorem jA:Dn 155 (Vl N):=Dt (Dq [(223,Vf N),(76,SA N)] []) ⟨[],[]⟩ Tryz.f155 N (Dk ⟨iR N,Vo N,trivial⟩)
def AbP:List (Nat×Nrm):=[(3,⟨[1,10],[],[],[],[]⟩),(130,⟨[1,10,120,121,122],[],[],[],[]⟩)]
def Adm:Lk:=⟨[],[(130,⟨[(1,.c AO),(10,.c x64),(120,.i),(121,.i),(122,.c x64)],[(33024,.box Bz)]⟩,[(0,⟨[(1,.c AO),(10,.c x64)],[(33024,.box Bz)]⟩)])]⟩
def QG:Sig:=.of [Jd] [Dp] (fun a=>Vx N a)
theorem UG:Dn 111 (QG N):=Dt (Dq [(175,eP N),(176,UH N),(177,Oq N),(178,Lj N),(179,LK N),(119,GI N),(180,TQ N),(181,OQ N)] AbP [] [(127,AgA N)] [] [15,19,20,24,28,29,34,39,40,45,46,51,52,56,57,61]) Adm Tryz.f111 N (Dk ⟨Aat N,dO N,Vy N,Ot N,SN N,Hf N,Wn N,Xa N,trivial⟩ trivial ⟨Amg N,trivial⟩)
def XA:Sig:=.of [Dw,O5] [Dp] (fun a=>Kr N a.1 a.2)
theorem UJ:Dn 267 (XA N):=Dt (Dq [(348,YJ N)] []) ⟨[],[]⟩ Tryz.f267 N (Dk ⟨sO N,trivial⟩)
def YO:List (Nat×Nrm):=[(3,⟨[6],[([6],230,Tq2,1004096)],[],[(1000000,1004096)],[]⟩),(30,⟨[4,6],[([6],230,Tq2,1000000)],[],[(44032,1000000)],[]⟩)]
def aB:Lk:=⟨[],[(30,⟨[(4,.c (.c (.ptr 36096 0))),(6,.c (xo 1000000))],[(36096,.box [Bl]),(1000000,.arr 230 false Tq2)]⟩,[(0,⟨[(6,.c (xo 1004096))],[(1004096,.arr 230 false Tq2)]⟩)])]⟩
def Iw:Sig:=.of [Dw] [.cell false (.sl 230 Tq2),Dp] (fun a=>Jf N a)
theorem Jg:Dn 290 (Iw N):=Dt (Dq [(184,FZ N),(352,Qp N),(119,GI N)] YO [(34,Gy N),(166,FM N)]) aB Tryz.f290 N (Dk ⟨FQ N,X8 N,Hf N,trivial⟩ ⟨Gw N,GK N,trivial⟩)
def Zr:Sig:=.of [ArY,Sq9] [Dp] (fun a=>oL N a.1 a.2)
theorem vI:Dn 286 (Zr N):=Dt (Dq [(288,V5 N),(350,oI N),(351,Zo N)] []) ⟨[],[]⟩ Tryz.f286 N (Dk ⟨XL N,Ace N,uX N,trivial⟩)
def AiC:List (Nat×Nrm):=[(3,⟨[],[],[],[],[]⟩),(94,⟨[1,88,89],[],[],[],[]⟩)]
def Akz:Lk:=⟨[],[(94,⟨[(1,.c AO),(88,.i),(89,.c x64)],[(33024,.box BA)]⟩,[(0,⟨[],[]⟩)])]⟩
def aO:Sig:=.of [Sq6] [Dp] (fun a=>uP N a)
theorem eX:Dn 68 (aO N):=Dt (Dq [(108,Hw N),(117,kF N),(118,XJ N),(119,GI N),(120,XI N)] AiC [] [] [] [40,45,46,50,56,57]) Akz Tryz.f68 N (Dk ⟨G6 N,oK N,rF N,Hf N,rE N,trivial⟩)
def YP:List (Nat×Nrm):=[(3,⟨[5,6],[([6],9,Aq,1016384)],[],[(1000000,1016384)],[]⟩),(38,⟨[5,6,22,23,24],[([6],9,Aq,1000000)],[],[(54272,1000000)],[]⟩),(57,⟨[5,6,8,9,22,23,24],[([6],9,Aq,1004096)],[],[(1000000,1004096)],[]⟩),(65,⟨[5,6,8,9,22,23,24],[([6],9,Aq,1008192)],[],[(1004096,1008192)],[]⟩),(77,⟨[5,6,9,22,23,24],[([6],9,Aq,1012288)],[],[(1008192,1012288)],[]⟩)]
def aC:Lk:=⟨[(57,⟨[(5,.c Bc),(6,.c (xo 1004096)),(8,.c AZ),(9,.c (xo 39936)),(22,.i),(23,.i),(24,.i)],[(34816,.box Ce),(38144,.box [xb]),(39936,.arr 9 false Aq),(1004096,.arr 9 false Aq)]⟩),(65,⟨[(5,.c Bc),(6,.c (xo 1008192)),(8,.c AZ),(9,.c (xo 39936)),(22,.i),(23,.i),(24,.i)],[(34816,.box Ce),(38144,.box [xb]),(39936,.arr 9 false Aq),(1008192,.arr 9 false Aq)]⟩),(77,⟨[(5,.c Bc),(6,.c (xo 1012288)),(9,.c (xo 39936)),(22,.i),(23,.i),(24,.i)],[(38144,.box [xb]),(39936,.arr 9 false Aq),(1012288,.arr 9 false Aq)]⟩)],[(38,⟨[(5,.c Bc),(6,.c (xo 1000000)),(22,.i),(23,.i),(24,.c x64)],[(38144,.box [xb]),(1000000,.arr 9 false Aq)]⟩,[(0,⟨[(5,.c Bc),(6,.c (xo 1016384))],[(38144,.box [xb]),(1016384,.arr 9 false Aq)]⟩)])]⟩
def OO:Sig:=.of [.cell false (.sl 230 Tq2)] [Dw,Dp] (fun a=>QH N a)
theorem WZ:Dn 201 (OO N):=Dt (Dq [(119,GI N),(299,Nr N),(93,Gf N),(54,Fg N),(300,RI N),(193,NW N),(31,G5 N),(33,Lr N)] YP) aC Tryz.f201 N (Dk ⟨Hf N,Qw N,FT N,EX N,UZ N,OD N,Gq N,MG N,trivial⟩)
def Adv:List (Nat×Nrm):=[(17,⟨[0,3,5,6],[],[],[],[]⟩),(25,⟨[0,3,5,6],[],[],[],[]⟩)]
def Aft:Lk:=⟨[(17,⟨[(0,.c AQ),(3,.c AP),(5,.c xs),(6,.i)],[(0,.box [xb]),(33536,.box [Bf,xb,xb,x64,xb])]⟩),(25,⟨[(0,.c AQ),(3,.c AP),(5,.i),(6,.c xs)],[(0,.box [xb]),(33536,.box [Bf,xb,xb,x64,xb])]⟩)],[]⟩
def fH:Sig:=.of [.box [(false,.bool)],Sq3] [Dw] (fun a=>vF N a.1 a.2)
theorem Aa1:Dn 200 (fH N):=Dt (Dq [(299,Nr N),(93,Gf N),(54,Fg N),(300,RI N),(301,Ws N),(31,G5 N)] Adv) Aft Tryz.f200 N (Dk ⟨Qw N,FT N,EX N,UZ N,kK N,Gq N,trivial⟩)
def Wy:Sig:=.of [Sq6] [Dw] (fun a=>Rk N a)
theorem lK:Dn 23 (Wy N):=Dt (Dq [(44,Q5 N),(45,YE N)] []) ⟨[],[]⟩ Tryz.f23 N (Dk ⟨YC N,ZR N,trivial⟩)
def Q4:Sig:=.of [AeV] [Dw,Dp] (fun a=>Tn N a)
theorem Y9:Dn 88 (Q4 N):=Dt (Dq [(153,WH N),(71,JS N),(72,JP N),(154,WJ N),(155,Vl N),(77,Jt N),(132,EL N),(78,Ja N),(74,I4 N)] []) ⟨[],[]⟩ Tryz.f88 N (Dk ⟨mX N,KX N,KR N,nC N,jA N,Jc N,E8 N,Ji N,GR N,trivial⟩)
def qO:Sig:=.of [Dw,O5] [Dp] (fun a=>OA N a.1 a.2)
theorem aJ:Dn 276 (qO N):=Dt (Dq [(290,Iw N)] []) ⟨[],[]⟩ Tryz.f276 N (Dk ⟨Jg N,trivial⟩)
def dU:Sig:=.of [Dw,O5] [Dp] (fun a=>Md N a.1 a.2)
theorem XB:Dn 279 (dU N):=Dt (Dq [(290,Iw N)] []) ⟨[],[]⟩ Tryz.f279 N (Dk ⟨Jg N,trivial⟩)
def uA:Sig:=.of [AeV] [Dp] (fun a=>Adj N a)
theorem Adk:Dn 64 (uA N):=Dt (Dq [(108,Hw N),(109,AaV N),(110,TZ N),(111,QG N)] []) ⟨[],[]⟩ Tryz.f64 N (Dk ⟨G6 N,Afg N,W9 N,UG N,trivial⟩)
def uU:List (Nat×Nrm):=[(3,⟨[0,4,6,7],[],[],[],[]⟩),(66,⟨[0,4,6,7,57,58,59],[],[],[],[]⟩),(89,⟨[0,4,6,7],[],[],[],[]⟩)]
def Aax:Lk:=⟨[(89,⟨[(0,.c AQ),(4,.c AU),(6,.c AY),(7,.c Ba)],[(0,.box [Bl]),(33792,.box Cb),(33797,.D5 120 false Ar),(34304,.box Cc),(34409,.D5 120 false Ar),(34560,.box BH)]⟩)],[(66,⟨[(0,.c AQ),(4,.c AU),(6,.c AY),(7,.c Ba),(57,.i),(58,.i),(59,.c x64)],[(0,.box [Bl]),(33792,.box Cb),(33797,.D5 120 false Ar),(34304,.box Cc),(34409,.D5 120 false Ar),(34560,.box BH)]⟩,[(0,⟨[(0,.c AQ),(4,.c AU),(6,.c AY),(7,.c Ba)],[(0,.box [Bl]),(33792,.box Cb),(33797,.D5 120 false Ar),(34304,.box Cc),(34409,.D5 120 false Ar),(34560,.box BH)]⟩)])]⟩
def Wq:Sig:=.of [H6,Sq2] [AlB,Dp] (fun a=>Zm N a.1 a.2)
theorem kC:Dn 185 (Wq N):=Dt (Dq [(285,fB N),(112,XM N),(114,kH N),(57,Fb N),(104,QV N),(286,Zr N),(37,Eh N)] uU) Aax Tryz.f185 N (Dk ⟨Aaw N,Zp N,oM N,EP N,QW N,vI N,DZ N,trivial⟩)
def fJ:Sig:=.of [AoM,Sq9] [Dp] (fun a=>vJ N a.1 a.2)
theorem Aa2:Dn 186 (fJ N):=Dt (Dq [(287,UN N),(288,V5 N),(289,fD N),(290,Iw N)] []) ⟨[],[]⟩ Tryz.f186 N (Dk ⟨fC N,XL N,Aay N,Jg N,trivial⟩)
def fF:List (Nat×Nrm):=[(17,⟨[0,3,5],[([5],220,Tq4,1000000)],[],[(37888,1000000)],[]⟩),(29,⟨[0,3,5],[],[],[(39936,1004096),(42752,1004096)],[]⟩),(37,⟨[0,3,5],[],[],[(45312,1008192),(1004096,1008192)],[]⟩)]
def kD:Lk:=⟨[(17,⟨[(0,.c AQ),(3,.c AP),(5,.c (xo 1000000))],[(0,.box [xb]),(33536,.box BA),(1000000,.arr 220 false Tq4)]⟩),(29,⟨[(0,.c AQ),(3,.c AP),(5,.c (xo 1004096))],[(0,.box [xb]),(33536,.box BA),(1004096,.arr 220 false Tq4)]⟩),(37,⟨[(0,.c AQ),(3,.c AP),(5,.c (xo 1008192))],[(0,.box [xb]),(33536,.box BA),(1008192,.arr 220 false Tq4)]⟩)],[]⟩
def QQ:Sig:=.of [.box [(false,.bool)],Sq6] [.cell false (.sl 220 Tq4)] (fun a=>UO N a.1 a.2)
theorem YZ:Dn 127 (QQ N):=Dt (Dq [(54,Fg N),(31,G5 N),(122,Ls N),(200,fH N),(201,OO N),(93,Gf N)] fF) kD Tryz.f127 N (Dk ⟨EX N,Gq N,MH N,Aa1 N,WZ N,FT N,trivial⟩)
def oV:Sig:=.of [AeV] [Dw] (fun a=>bH N a)
theorem Acu:Dn 50 (oV N):=Dt (Dq [(88,Q4 N),(45,YE N)] []) ⟨[],[]⟩ Tryz.f50 N (Dk ⟨Y9 N,ZR N,trivial⟩)
def AgB (N n:Nat):Sig:=.of [.cell false .str,O5] [.cell false (.int .i64)] (Al2 N n)
theorem Amh:Px Tryz.prog (AgB N):=TT (Dv:=[.cell false .str,O5]) (DI:=[.cell false (.int .i64)]) (l:=[(243,fun a=>PQ N a.1 a.2),(246,fun a=>PS N a.1 a.2),(249,fun a=>MC N a.1 a.2),(252,fun a=>MB N a.1 a.2),(255,fun a=>Me N a.1 a.2),(258,fun a=>O9 N a.1 a.2),(261,fun a=>Nj N a.1 a.2),(264,fun a=>PR N a.1 a.2),(267,fun a=>Kr N a.1 a.2),(270,fun a=>Nk N a.1 a.2),(273,fun a=>Ll N a.1 a.2),(276,fun a=>OA N a.1 a.2),(279,fun a=>Md N a.1 a.2)]) ⟨dS N,eF N,XE N,XD N,XC N,aI N,YU N,dW N,UJ N,YX N,Xb N,aJ N,XB N,trivial⟩
def jZ:List (Nat×Nrm):=[(3,⟨[8],[([8],159,Tq3,1004096)],[],[(1000000,1004096)],[]⟩),(30,⟨[3,6,8],[([8],159,Tq3,1000000)],[],[(44544,1000000)],[]⟩)]
def rG:Lk:=⟨[],[(30,⟨[(3,.c AP),(6,.c (.c (.ptr 36352 0))),(8,.c (xo 1000000))],[(33536,.box [Bi]),(36352,.box [Bl]),(1000000,.arr 159 false Tq3)]⟩,[(0,⟨[(8,.c (xo 1004096))],[(1004096,.arr 159 false Tq3)]⟩)])]⟩
def Tf:Sig:=.of [Dw,Sq2] [.cell false (.sl 159 Tq3),Dp] (fun a=>Wp N a.1 a.2)
theorem aP:Dn 115 (Tf N):=Dt (Dq [(184,FZ N),(185,Wq N)] jZ [(56,Ih N),(166,FM N)]) rG Tryz.f115 N (Dk ⟨FQ N,kC N,trivial⟩ ⟨Jy N,GK N,trivial⟩)
def YY:List (Nat×Nrm):=[(3,⟨[7],[],[],[],[]⟩),(26,⟨[0,7,21,22,23],[],[],[],[]⟩)]
def aQ:Lk:=⟨[],[(26,⟨[(0,.c AQ),(7,.c (xo 37632)),(21,.i),(22,.i),(23,.c x64)],[(0,.box BA),(37632,.mp Aq A7)]⟩,[(0,⟨[(7,.c (xo 37632))],[(0,.box BA),(37632,.mp Aq A7)]⟩)])]⟩
def OT:Sig:=.of [AoM,Dw] [Dp] (fun a=>QP N a.1 a.2)
theorem Xc:Dn 116 (OT N):=Dt (Dq [(104,QV N),(186,fJ N)] YY) aQ Tryz.f116 N (Dk ⟨QW N,Aa2 N,trivial⟩)
def AlY:List (Nat×Nrm):=[(3,⟨[1,5,7],[([7],9,Aq,1008192)],[],[(1004096,1008192)],[]⟩),(42,⟨[1,5,7,8,26,27,28],[([7],9,Aq,1004096)],[],[(42496,1004096)],[]⟩),(65,⟨[1,5,6],[],[],[],[]⟩)]
def AnI:Lk:=⟨[(65,⟨[(1,.c AO),(5,.c (.c (.ptr 37376 0))),(6,.c xs)],[(33024,.box BA),(37376,.box [xb])]⟩)],[(42,⟨[(1,.c AO),(5,.c (.c (.ptr 37376 0))),(7,.c (xo 1004096)),(8,.c AZ),(26,.i),(27,.i),(28,.c x64)],[(33024,.box BA),(34816,.box [Bi]),(37376,.box [xb]),(1004096,.arr 9 false Aq)]⟩,[(0,⟨[(1,.c AO),(5,.c (.c (.ptr 37376 0))),(7,.c (xo 1008192))],[(33024,.box BA),(37376,.box [xb]),(1008192,.arr 9 false Aq)]⟩)])]⟩
def Ag6:Sig:=.of [Sq6] [Dw,Dp] (fun a=>Alv N a)
theorem AiD:Dn 69 (Ag6 N):=Dt (Dq [(68,aO N),(121,fG N),(31,G5 N),(122,Ls N),(123,Tj N),(124,TU N),(93,Gf N),(125,V6 N),(127,QQ N),(126,XY N),(54,Fg N),(33,Lr N)] AlY) AnI Tryz.f69 N (Dk ⟨eX N,Aa0 N,Gq N,MH N,bF N,Wu N,FT N,XN N,YZ N,Zx N,EX N,MG N,trivial⟩)
end
