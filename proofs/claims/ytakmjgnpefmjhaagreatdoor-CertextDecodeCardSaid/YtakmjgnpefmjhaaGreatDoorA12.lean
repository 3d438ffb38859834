import Derived.Test.YtakmjgnpefmjhaaGreatDoorA11
set_option linter.all false
namespace Go.Proofs.YtakmjgnpefmjhaaGreatDoor.Vm
noncomputable section
variable (N:Nat)
open Go.Proofs
def Ala:List (Nat×Nrm):=[(3,⟨[],[],[],[],[]⟩),(18,⟨[11,12,13],[],[],[],[]⟩)]
def Anc:Lk:=⟨[],[(18,⟨[(11,.i),(12,.i),(13,.c x64)],[]⟩,[(0,⟨[],[]⟩)])]⟩
def VR:Sig:=.of [Sq4] [J3] (fun a=>Qc N a)
def Vx (N:Nat):Ju 209 (VR N):=Jw (Jv [(237,ZJ N)] Ala) Anc Tryz.f209 N (Jt ⟨rP N,trivial⟩)
def Aeg:List (Nat×Nrm):=[(3,⟨[],[],[],[],[]⟩),(18,⟨[9,10,11],[],[],[],[]⟩)]
def AfS:Lk:=⟨[],[(18,⟨[(9,.i),(10,.i),(11,.c x64)],[]⟩,[(0,⟨[],[]⟩)])]⟩
def X5:Sig:=.of [.cell false (.sl 70 Tq2)] [J3] (fun a=>SE N a)
def aB (N:Nat):Ju 49 (X5 N):=Jw (Jv [(140,Ph N)] Aeg) AfS Tryz.f49 N (Jt ⟨P9 N,trivial⟩)
def zK:List (Nat×Nrm):=[(3,⟨[],[],[],[],[]⟩),(26,⟨[31,32,33],[],[],[],[]⟩)]
def Abd:Lk:=⟨[],[(26,⟨[(31,.c (xo 40704)),(32,.i),(33,.c x64)],[(40704,.arr 70 false Tq2)]⟩,[(0,⟨[],[]⟩)])]⟩
def QE:Sig:=.of [Sq6] [J3] (fun a=>MM N a)
def SC (N:Nat):Ju 50 (QE N):=Jw (Jv [(140,Ph N)] zK) Abd Tryz.f50 N (Jt ⟨P9 N,trivial⟩)
def UT:Sig:=.of [Sq5,JM] [J7,J3] (fun a=>PQ N a.1 a.2)
def Xz (N:Nat):Ju 60 (UT N):=Jw (Jv [(140,Ph N),(144,kY N),(20,MJ N)] []) ⟨[],[]⟩ Tryz.f60 N (Jt ⟨P9 N,Abg N,L9 N,trivial⟩)
def yJ:List (Nat×Nrm):=[(3,⟨[6],[],[],[(261,1004096),(1000000,1004096)],[]⟩),(10,⟨[1,5,6],[],[],[(261,1000000),(40960,1000000)],[]⟩)]
def Aar:Lk:=⟨[],[(10,⟨[(1,.c (.c (.ptr 256 0))),(5,.c (.c (.ptr 35328 0))),(6,.c x64)],[(256,.box [xb,xb,x64,x64,(xo 1000000),(xo 262),(xo 263),x64,x64,x64,Be,xb,Be,Be,xs,xs,Bf,Bf,(xo 275)]),(262,.arr 9 true Aq),(263,.arr 58 true (.str Aq)),(275,.arr 42 true Tq0),(35328,.box [Bl]),(1000000,.arr 9 true Aq)]⟩,[(0,⟨[(6,.c x64)],[(256,.box [xb,xb,x64,x64,(xo 1004096),(xo 262),(xo 263),x64,x64,x64,Be,xb,Be,Be,xs,xs,Bf,Bf,(xo 275)]),(262,.arr 9 true Aq),(263,.arr 58 true (.str Aq)),(275,.arr 42 true Tq0),(1004096,.arr 9 true Aq)]⟩)])]⟩
def Aas:Sig:=.of [J7,Yo] [J3] (fun a=>PI N a.1 a.2)
def rC (N:Nat):Spec Tryz.prog 109 (Aas N):=OG (C:=ctx Tryz.prog [(181,Px N),(182,WJ N)] yJ [(180,RG N)]) (L:=Aar) (fn:=Tryz.f109) (N:=N+1) (Jt ⟨OW N,Xb N,trivial⟩ ⟨Vr N,trivial⟩)
def Ad6:List (Nat×Nrm):=[(3,⟨[],[],[],[(517,1012336),(518,1012320),(519,1012304),(531,1012288),(1000000,1012288),(1000016,1012304),(1000032,1012320),(1000048,1012336)],[]⟩),(11,⟨[1,2,7,9,11],[([11],9,Aq,1008192)],[],[(517,1008256),(518,1008240),(519,1008224),(531,1008208),(1004096,1008192),(1004112,1008208),(1004128,1008224),(1004144,1008240),(1004160,1008256)],[]⟩),(18,⟨[1,2,7],[],[],[(517,1000048),(518,1000032),(519,1000016),(531,1000000),(617,1000048),(618,1000032),(619,1000016),(631,1000000)],[]⟩),(38,⟨[1,2,7,9,11],[([11],9,Aq,1004096)],[],[(517,1004160),(518,1004144),(519,1004128),(531,1004112),(45312,1004096),(1000000,1004112),(1000016,1004128),(1000032,1004144),(1000048,1004160)],[]⟩)]
def Ae8:Lk:=⟨[],[(18,⟨[(1,.i),(2,.c (.c (.clo 185 512))),(7,.c AY)],[(512,.box Bv),(37120,.box [Bl]),(1000000,.arr 42 true Tq0),(1000016,.arr 58 true (.str Aq)),(1000032,.arr 9 true Aq),(1000048,.arr 9 true Aq)]⟩,[(0,⟨[],[(512,.box BA),(1012288,.arr 42 true Tq0),(1012304,.arr 58 true (.str Aq)),(1012320,.arr 9 true Aq),(1012336,.arr 9 true Aq)]⟩)]),(38,⟨[(1,.i),(2,.c (.c (.clo 185 512))),(7,.c AY),(9,.c Bc),(11,.c (xo 1004096))],[(512,.box BB),(37120,.box [Bl]),(39936,.box [Bl]),(1004096,.arr 9 false Aq),(1004112,.arr 42 true Tq0),(1004128,.arr 58 true (.str Aq)),(1004144,.arr 9 true Aq),(1004160,.arr 9 true Aq)]⟩,[(2,⟨[(1,.i),(2,.c (.c (.clo 185 512))),(7,.c AY),(9,.c Bc),(11,.c (xo 1008192))],[(512,.box BC),(37120,.box [Bl]),(39936,.box [Bl]),(1008192,.arr 9 false Aq),(1008208,.arr 42 true Tq0),(1008224,.arr 58 true (.str Aq)),(1008240,.arr 9 true Aq),(1008256,.arr 9 true Aq)]⟩)])]⟩
def kD:Sig:=.of [J7,J3,A1i] [J3] (fun a=>Vp N a.1 a.2.1 a.2.2)
def Aau (N:Nat):Spec Tryz.prog 183 (kD N):=OG (C:=ctx Tryz.prog [(181,Px N),(182,WJ N),(173,NU N)] Ad6 [(180,RG N),(222,PK N)] [(55,AoO N)]) (L:=Ae8) (fn:=Tryz.f183) (N:=N+1) (Jt ⟨OW N,Xb N,NQ N,trivial⟩ ⟨Vr N,UE N,trivial⟩ ⟨AuW N,trivial⟩)
def Ad7:List (Nat×Nrm):=[(3,⟨[],[],[],[(517,1012336),(518,1012320),(519,1012304),(531,1012288),(1000000,1012288),(1000016,1012304),(1000032,1012320),(1000048,1012336)],[]⟩),(11,⟨[1,2,7,9,11],[([11],9,Aq,1008192)],[],[(517,1008256),(518,1008240),(519,1008224),(531,1008208),(1004096,1008192),(1004112,1008208),(1004128,1008224),(1004144,1008240),(1004160,1008256)],[]⟩),(18,⟨[1,2,7],[],[],[(517,1000048),(518,1000032),(519,1000016),(531,1000000),(617,1000048),(618,1000032),(619,1000016),(631,1000000)],[]⟩),(38,⟨[1,2,7,9,11],[([11],9,Aq,1004096)],[],[(517,1004160),(518,1004144),(519,1004128),(531,1004112),(45312,1004096),(1000000,1004112),(1000016,1004128),(1000032,1004144),(1000048,1004160)],[]⟩)]
def Ae9:Lk:=⟨[],[(18,⟨[(1,.i),(2,.c (.c (.clo 186 512))),(7,.c AY)],[(512,.box Bv),(37120,.box [Bl]),(1000000,.arr 42 true Tq0),(1000016,.arr 58 true (.str Aq)),(1000032,.arr 9 true Aq),(1000048,.arr 9 true Aq)]⟩,[(0,⟨[],[(512,.box BA),(1012288,.arr 42 true Tq0),(1012304,.arr 58 true (.str Aq)),(1012320,.arr 9 true Aq),(1012336,.arr 9 true Aq)]⟩)]),(38,⟨[(1,.i),(2,.c (.c (.clo 186 512))),(7,.c AY),(9,.c Bc),(11,.c (xo 1004096))],[(512,.box BB),(37120,.box [Bl]),(39936,.box [Bl]),(1004096,.arr 9 false Aq),(1004112,.arr 42 true Tq0),(1004128,.arr 58 true (.str Aq)),(1004144,.arr 9 true Aq),(1004160,.arr 9 true Aq)]⟩,[(2,⟨[(1,.i),(2,.c (.c (.clo 186 512))),(7,.c AY),(9,.c Bc),(11,.c (xo 1008192))],[(512,.box BC),(37120,.box [Bl]),(39936,.box [Bl]),(1008192,.arr 9 false Aq),(1008208,.arr 42 true Tq0),(1008224,.arr 58 true (.str Aq)),(1008240,.arr 9 true Aq),(1008256,.arr 9 true Aq)]⟩)])]⟩
def kE:Sig:=.of [J7,J3,A1j] [J3] (fun a=>Vq N a.1 a.2.1 a.2.2)
def Aav (N:Nat):Spec Tryz.prog 183 (kE N):=OG (C:=ctx Tryz.prog [(181,Px N),(182,WJ N),(173,NU N)] Ad7 [(180,RG N),(222,PK N)] [(55,AoP N)]) (L:=Ae9) (fn:=Tryz.f183) (N:=N+1) (Jt ⟨OW N,Xb N,NQ N,trivial⟩ ⟨Vr N,UE N,trivial⟩ ⟨AuY N,trivial⟩)
def AbE:List (Nat×Nrm):=[(22,⟨[5,25,26,27],[],[],[],[]⟩)]
def Ad4:Sig:=.of [J7,Yo] [J3] (fun a=>QQ N a.1 a.2)
def yH (N:Nat):Spec Tryz.prog 118 (Ad4 N):=OG (C:=ctx Tryz.prog [(171,RY N),(172,Vs N),(173,NU N)] AbE [(180,RG N)]) (L:=⟨[],[]⟩) (fn:=Tryz.f118) (N:=N+9) (Jt ⟨SL N,Wu N,NQ N,trivial⟩ ⟨Vr N,trivial⟩)
open Go.Proofs
def VT:Sig:=.of [Sq5,JM] [J3] (fun a=>Ro N a.1 a.2)
def V3 (N:Nat):Ju 150 (VT N):=Jw (Jv [(208,Aj1 N),(209,VR N),(210,kJ N)] []) ⟨[],[]⟩ Tryz.f150 N (Jt ⟨Anf N,Vx N,AaE N,trivial⟩)
def Ajp:List (Nat×Nrm):=[(3,⟨[5],[([5],9,Aq,1012288)],[],[(1000000,1012288)],[]⟩),(11,⟨[5,8,21,22,23],[([8],9,Aq,1008192),([5],9,Aq,1008208)],[],[(1004096,1008192),(1004112,1008208)],[]⟩),(26,⟨[5,21,22,23],[([5],9,Aq,1000000)],[],[(47872,1000000)],[]⟩),(42,⟨[5,8,21,22,23,27,28,29],[([8],9,Aq,1004096),([5],9,Aq,1004112)],[],[(44032,1004096),(1000000,1004112)],[]⟩)]
def Alc:Lk:=⟨[],[(26,⟨[(5,.c (xo 1000000)),(21,.i),(22,.i),(23,.c x64)],[(1000000,.arr 9 false Aq)]⟩,[(0,⟨[(5,.c (xo 1012288))],[(1012288,.arr 9 false Aq)]⟩)]),(42,⟨[(5,.c (xo 1004112)),(8,.c (xo 1004096)),(21,.i),(22,.i),(23,.i),(27,.i),(28,.i),(29,.c x64)],[(1004096,.arr 9 false Aq),(1004112,.arr 9 false Aq)]⟩,[(2,⟨[(5,.c (xo 1008208)),(8,.c (xo 1008192)),(21,.i),(22,.i),(23,.i)],[(1008192,.arr 9 false Aq),(1008208,.arr 9 false Aq)]⟩)])]⟩
def AaB:Sig:=.of [Sq4] [J7,J3] (fun a=>AeM N a)
def AgR (N:Nat):Ju 251 (AaB N):=Jw (Jv [(209,VR N),(272,Ym N),(273,zY N),(217,VK N)] Ajp) Alc Tryz.f251 N (Jt ⟨Vx N,lU N,AlZ N,Tm N,trivial⟩)
def AcA:List (Nat×Nrm):=[(3,⟨[],[],[],[],[]⟩),(18,⟨[10,11,12],[],[],[],[]⟩)]
def Aea:Lk:=⟨[],[(18,⟨[(10,.i),(11,.i),(12,.c x64)],[]⟩,[(0,⟨[],[]⟩)])]⟩
def SN:Sig:=.of [.cell false (.sl 117 Tq3)] [J3] (fun a=>LK N a)
def Uh (N:Nat):Ju 51 (SN N):=Jw (Jv [(49,X5 N),(141,QT N)] AcA [] [] [] [20,24,25,29,35,36]) Aea Tryz.f51 N (Jt ⟨aB N,Rf N,trivial⟩)
def AdW:List (Nat×Nrm):=[(3,⟨[4],[],[],[],[]⟩),(30,⟨[4,15,16,17],[],[],[],[]⟩)]
def AfH:Lk:=⟨[],[(30,⟨[(4,.c xs),(15,.i),(16,.i),(17,.c x64)],[]⟩,[(0,⟨[(4,.c xs)],[]⟩)])]⟩
def TJ:Sig:=.of [.cell false (.sl 70 Tq2)] [J7,J3] (fun a=>PY N a)
def UU (N:Nat):Ju 23 (TJ N):=Jw (Jv [(60,UT N)] AdW) AfH Tryz.f23 N (Jt ⟨Xz N,trivial⟩)
def AnJ:List (Nat×Nrm):=[(3,⟨[0,6],[],[],[],[]⟩),(22,⟨[0,6,14,15,16],[],[],[],[]⟩)]
def Aqr:Lk:=⟨[],[(22,⟨[(0,.i),(6,.c xs),(14,.i),(15,.i),(16,.c x64)],[]⟩,[(0,⟨[(0,.i),(6,.c xs)],[]⟩)])]⟩
def AfM:Sig:=.of [J3,.cell false (.sl 70 Tq2)] [J7,J3] (fun a=>VF N a.1 a.2)
def Akz (N:Nat):Ju 61 (AfM N):=Jw (Jv [(60,UT N),(20,MJ N),(62,jK N)] AnJ) Aqr Tryz.f61 N (Jt ⟨Xz N,L9 N,iP N,trivial⟩)
def Aaq:Sig:=.of [J7,Yo] [J3] (fun a=>PH N a.1 a.2)
def qZ (N:Nat):Ju 112 (Aaq N):=Jw (Jv [(183,kD N)] []) ⟨[],[]⟩ Tryz.f112 N (Jt ⟨Aau N,trivial⟩)
def Aao:Sig:=.of [J7,Yo] [J3] (fun a=>PG N a.1 a.2)
def qY (N:Nat):Ju 115 (Aao N):=Jw (Jv [(183,kE N)] []) ⟨[],[]⟩ Tryz.f115 N (Jt ⟨Aav N,trivial⟩)
def Ajo:List (Nat×Nrm):=[(3,⟨[2,4,8],[],[],[(34817,1004096),(1000000,1004096)],[]⟩),(50,⟨[2,4,8,37,38,39],[],[],[(34817,1000000),(47104,1000000)],[]⟩)]
def Alb:Lk:=⟨[],[(50,⟨[(2,.c AB),(4,.c AP),(8,.c AX),(37,.i),(38,.i),(39,.c x64)],[(33280,.box BG),(33281,.JR 165 false Ar),(33792,.box [(xo 33793)]),(33793,.JR 165 false Ar),(34816,.box [(xo 1000000)]),(1000000,.arr 165 false Ar)]⟩,[(0,⟨[(2,.c AB),(4,.c AP),(8,.c AX)],[(33280,.box BG),(33281,.JR 165 false Ar),(33792,.box [(xo 33793)]),(33793,.JR 165 false Ar),(34816,.box [(xo 1004096)]),(1004096,.arr 165 false Ar)]⟩)])]⟩
def AaA:Sig:=.of [J7] [Sq4,J3] (fun a=>bC N a)
def AgQ (N:Nat):Ju 252 (AaA N):=Jw (Jv [(148,lG N),(225,TQ N),(274,Y2 N),(209,VR N)] Ajo) Alb Tryz.f252 N (Jt ⟨eX N,QO N,oU N,Vx N,trivial⟩)
open Go.Proofs
def zL:List (Nat×Nrm):=[(29,⟨[1,2,4,6,12,14],[],[],[],[]⟩),(53,⟨[1,4,6],[],[(some 34304,2,Ar)],[],[]⟩)]
def Abe:Lk:=⟨[(29,⟨[(1,.i),(2,.c AB),(4,.c AP),(6,.c Bd),(12,.i),(14,.c xb)],[(33280,.box [x64,xs,xs]),(33792,.box BM),(33795,.JR 165 false Ar),(34304,.box [Az,AA,(xo 34407)]),(34407,.JR 165 false Ar)]⟩),(53,⟨[(1,.i),(4,.c AP),(6,.c Bd)],[(33792,.box BM),(33795,.JR 165 false Ar),(34304,.box [x64,xs,Bj])]⟩)],[]⟩
def UQ:Sig:=.of [Ut,JM] [Sq5,J3] (fun a=>PO N a.1 a.2)
def Xy (N:Nat):Ju 160 (UQ N):=Jw (Jv [(212,kX N),(140,Ph N)] zL) Abe Tryz.f160 N (Jt ⟨Abf N,P9 N,trivial⟩)
open Go.Proofs
def AdU:List (Nat×Nrm):=[(3,⟨[6],[([6],70,Tq2,1004096)],[],[(1000000,1004096)],[]⟩),(42,⟨[6,25,26,27],[([6],70,Tq2,1000000)],[],[(43520,1000000)],[]⟩)]
def AfF:Lk:=⟨[],[(42,⟨[(6,.c (xo 1000000)),(25,.i),(26,.i),(27,.c x64)],[(1000000,.arr 70 false Tq2)]⟩,[(0,⟨[(6,.c (xo 1004096))],[(1004096,.arr 70 false Tq2)]⟩)])]⟩
def TG:Sig:=.of [J7] [.cell false (.sl 70 Tq2),J3] (fun a=>PX N a)
def UR (N:Nat):Ju 90 (TG N):=Jw (Jv [(34,Xw N),(160,UQ N)] AdU) AfF Tryz.f90 N (Jt ⟨WR N,Xy N,trivial⟩)
def AlS:List (Nat×Nrm):=[(3,⟨[6],[([6],70,Tq2,1004096)],[],[(1000000,1004096)],[]⟩),(34,⟨[6,26,27,28],[([6],70,Tq2,1000000)],[],[(48640,1000000)],[]⟩)]
def AnL:Lk:=⟨[],[(34,⟨[(6,.c (xo 1000000)),(26,.i),(27,.i),(28,.c x64)],[(1000000,.arr 70 false Tq2)]⟩,[(0,⟨[(6,.c (xo 1004096))],[(1004096,.arr 70 false Tq2)]⟩)])]⟩
def Adp:Sig:=.of [Ut] [.cell false (.sl 70 Tq2),J3] (fun a=>Ug N a)
def AiD (N:Nat):Ju 161 (Adp N):=Jw (Jv [(34,Xw N),(153,Qr N),(158,PR N),(160,UQ N),(84,MZ N)] AlS) AnL Tryz.f161 N (Jt ⟨WR N,Pn N,Qg N,Xy N,MQ N,trivial⟩)
open Go.Proofs
def Aai:List (Nat×Nrm):=[(3,⟨[],[],[],[],[]⟩),(10,⟨[6,7,8],[],[],[],[]⟩)]
def AbB:Lk:=⟨[],[(10,⟨[(6,.i),(7,.i),(8,.c x64)],[]⟩,[(0,⟨[],[]⟩)])]⟩
def Vo:Sig:=.of [.cell false (.sl 70 Tq2)] [J3] (fun a=>Qk N a)
def Yk (N:Nat):Ju 76 (Vo N):=Jw (Jv [(150,VT N)] Aai) AbB Tryz.f76 N (Jt ⟨V3 N,trivial⟩)
def AiP:List (Nat×Nrm):=[(3,⟨[],[],[],[],[]⟩),(11,⟨[32,33,34],[],[],[],[]⟩),(26,⟨[32,33,34],[],[],[],[]⟩),(38,⟨[32,33,34,38,39,40],[],[],[],[]⟩)]
def Ak6:Lk:=⟨[],[(26,⟨[(32,.c (xo 40960)),(33,.i),(34,.c x64)],[(40960,.arr 33 false (.sl 70 Tq2 .nil))]⟩,[(0,⟨[],[]⟩)]),(38,⟨[(32,.c (xo 40960)),(33,.i),(34,.i),(38,.i),(39,.i),(40,.c x64)],[(40960,.arr 33 false (.sl 70 Tq2 .nil))]⟩,[(2,⟨[(32,.c (xo 40960)),(33,.i),(34,.i)],[(40960,.arr 33 false (.sl 70 Tq2 .nil))]⟩)])]⟩
def WX:Sig:=.of [Sq6] [J3] (fun a=>Oq N a)
def XB (N:Nat):Ju 151 (WX N):=Jw (Jv [(150,VT N)] AiP) Ak6 Tryz.f151 N (Jt ⟨V3 N,trivial⟩)
def XT:Sig:=.of [Sq5,JM] [J7,J3] (fun a=>bG N a.1 a.2)
def Yu (N:Nat):Ju 224 (XT N):=Jw (Jv [(150,VT N),(217,VK N),(251,AaB N)] []) ⟨[],[]⟩ Tryz.f224 N (Jt ⟨V3 N,Tm N,AgR N,trivial⟩)
def AfN:List (Nat×Nrm):=[(3,⟨[],[],[],[],[]⟩),(93,⟨[1],[],[],[],[]⟩),(138,⟨[1,134,135,136],[],[],[],[]⟩)]
def Ahh:Lk:=⟨[(93,⟨[(1,.c AL)],[(33024,.box Bo)]⟩)],[(138,⟨[(1,.c AL),(134,.i),(135,.i),(136,.c x64)],[(33024,.box Bo)]⟩,[(0,⟨[],[]⟩)])]⟩
def Yy:Sig:=.of [Sq7] [J3] (fun a=>QF N a)
def dK (N:Nat):Ju 17 (Yy N):=Jw (Jv [(46,AfX N),(47,nZ N),(48,aA N),(49,X5 N),(50,QE N),(51,SN N),(52,Adq N),(37,Oy N),(53,Adr N),(38,uJ N),(54,mP N)] AfN [] [] [] [17,21,22,26,30,31,36,41,42,47,48,53,54,58,59,63]) Ahh Tryz.f17 N (Jt ⟨Ak2 N,AcE N,uN N,aB N,SC N,Uh N,AiE N,Ol N,AiF N,xY N,tY N,trivial⟩)
def YE:Sig:=.of [Sq6] [J7,J3] (fun a=>Pj N a)
def pM (N:Nat):Ju 24 (YE N):=Jw (Jv [(50,QE N),(61,AfM N),(62,jK N)] []) ⟨[],[]⟩ Tryz.f24 N (Jt ⟨SC N,Akz N,iP N,trivial⟩)
def o5:Sig:=.of [Sq4] [J7] (fun a=>WT N a)
def AcF (N:Nat):Ju 63 (o5 N):=Jw (Jv [(23,TJ N)] []) ⟨[],[]⟩ Tryz.f63 N (Jt ⟨UU N,trivial⟩)
def o6:Sig:=.of [.cell false (.sl 70 Tq2)] [J7] (fun a=>TM N a)
def AcG (N:Nat):Ju 64 (o6 N):=Jw (Jv [(23,TJ N),(20,MJ N)] []) ⟨[],[]⟩ Tryz.f64 N (Jt ⟨UU N,L9 N,trivial⟩)
def Aj0:List (Nat×Nrm):=[(29,⟨[1,2,4,6,11,13],[],[],[],[]⟩),(53,⟨[1,4,6],[],[(some 34304,2,Ar)],[],[]⟩)]
def Alm:Lk:=⟨[(29,⟨[(1,.i),(2,.c AB),(4,.c AP),(6,.c Bd),(11,.i),(13,.c xb)],[(33280,.box [x64,xs,xs]),(33792,.box BM),(33795,.JR 165 false Ar),(34304,.box [Az,AA,(xo 34307)]),(34307,.JR 165 false Ar)]⟩),(53,⟨[(1,.i),(4,.c AP),(6,.c Bd)],[(33792,.box BM),(33795,.JR 165 false Ar),(34304,.box [x64,xs,Bj])]⟩)],[]⟩
def iE:Sig:=.of [Ut,JM] [Sq5,J3] (fun a=>UF N a.1 a.2)
def nO (N:Nat):Ju 226 (iE N):=Jw (Jv [(252,AaA N),(150,VT N)] Aj0) Alm Tryz.f226 N (Jt ⟨AgQ N,V3 N,trivial⟩)
open Go.Proofs
def vU:List (Nat×Nrm):=[(57,⟨[2,4,7,8],[],[(some 34816,0,Tq2)],[],[]⟩),(77,⟨[2,4,7,8],[],[(some 34816,1,Tq2)],[],[]⟩)]
def zM:Lk:=⟨[(57,⟨[(2,.c AB),(4,.c AP),(7,.c Ba),(8,.c AX)],[(33280,.box BF),(33281,.JR 70 false Tq2),(33282,.JR 70 false Tq2),(33792,.box [(xo 33893),(xo 33894)]),(33893,.JR 70 false Tq2),(33894,.JR 70 false Tq2),(34560,.box [Bl,x64]),(34816,.box [Be,(xo 34918)]),(34918,.JR 70 false Tq2)]⟩),(77,⟨[(2,.c AB),(4,.c AP),(7,.c Ba),(8,.c AX)],[(33280,.box BF),(33281,.JR 70 false Tq2),(33282,.JR 70 false Tq2),(33792,.box [(xo 33893),(xo 33894)]),(33893,.JR 70 false Tq2),(33894,.JR 70 false Tq2),(34560,.box [Bl,x64]),(34816,.box [Be,Be])]⟩)],[]⟩
def YD:Sig:=.of [J7] [Sq6,J3] (fun a=>Rh N a)
def pK (N:Nat):Ju 91 (YD N):=Jw (Jv [(32,Wp N),(153,Qr N),(154,NI N),(161,Adp N),(84,MZ N),(50,QE N)] vU) zM Tryz.f91 N (Jt ⟨UN N,Pn N,NC N,AiD N,MQ N,SC N,trivial⟩)
def aC:Sig:=.of [AhD] [.cell false (.sl 70 Tq2),J3] (fun a=>PS N a)
def uQ (N:Nat):Ju 162 (aC N):=Jw (Jv [(154,NI N),(85,Zd N),(90,TG N)] []) ⟨[],[]⟩ Tryz.f162 N (Jt ⟨NC N,Z8 N,UR N,trivial⟩)
def dQ:Sig:=.of [J7] [Sq4,J3] (fun a=>OB N a)
def wE (N:Nat):Ju 164 (dQ N):=Jw (Jv [(90,TG N)] []) ⟨[],[]⟩ Tryz.f164 N (Jt ⟨UR N,trivial⟩)
open Go.Proofs
def VO:Sig:=.of [Sq7] [J3] (fun a=>OO N a)
def eY (N:Nat):Ju 77 (VO N):=Jw (Jv [(151,WX N)] []) ⟨[],[]⟩ Tryz.f77 N (Jt ⟨XB N,trivial⟩)
def Aak:List (Nat×Nrm):=[(13,⟨[1,4],[],[],[],[]⟩)]
def AbC:Lk:=⟨[(13,⟨[(1,.c AL),(4,.c xb)],[(33024,.box BL)]⟩)],[]⟩
def aT:Sig:=.of [Sq8] [J3] (fun a=>TA N a)
def vG (N:Nat):Ju 152 (aT N):=Jw (Jv [(76,Vo N),(209,VR N)] Aak) AbC Tryz.f152 N (Jt ⟨Yk N,Vx N,trivial⟩)
def AdO:List (Nat×Nrm):=[(3,⟨[5],[],[],[],[]⟩),(26,⟨[5,16,17,18],[],[],[],[]⟩)]
def AeZ:Lk:=⟨[],[(26,⟨[(5,.c xs),(16,.i),(17,.i),(18,.c x64)],[]⟩,[(0,⟨[(5,.c xs)],[]⟩)])]⟩
def Xl:Sig:=.of [.cell false (.sl 70 Tq2)] [J7,J3] (fun a=>Zu N a)
def ZN (N:Nat):Ju 187 (Xl N):=Jw (Jv [(223,lV N),(224,XT N)] AdO) AeZ Tryz.f187 N (Jt ⟨rY N,Yu N,trivial⟩)
def Abz:List (Nat×Nrm):=[(3,⟨[0,6],[([6],9,Aq,1004096)],[],[(1000000,1004096)],[]⟩),(22,⟨[0,6,15,16,17],[([6],9,Aq,1000000)],[],[(43264,1000000)],[]⟩)]
def AcU:Lk:=⟨[],[(22,⟨[(0,.i),(6,.c (xo 1000000)),(15,.i),(16,.i),(17,.c x64)],[(1000000,.arr 9 false Aq)]⟩,[(0,⟨[(0,.i),(6,.c (xo 1004096))],[(1004096,.arr 9 false Aq)]⟩)])]⟩
def eQ:Sig:=.of [J3,.cell false (.sl 70 Tq2)] [J7,J3] (fun a=>XC N a.1 a.2)
def wJ (N:Nat):Ju 227 (eQ N):=Jw (Jv [(224,XT N),(217,VK N)] Abz) AcU Tryz.f227 N (Jt ⟨Yu N,Tm N,trivial⟩)
def Abp:List (Nat×Nrm):=[(3,⟨[5],[],[],[],[]⟩),(34,⟨[5,17,18,19],[],[],[],[]⟩),(53,⟨[5,7,8,17,18,19],[],[],[],[]⟩)]
def AcC:Lk:=⟨[(53,⟨[(5,.i),(7,.c Ba),(8,.c xs),(17,.i),(18,.i),(19,.i)],[(34560,.box BL)]⟩)],[(34,⟨[(5,.c xs),(17,.i),(18,.i),(19,.c x64)],[]⟩,[(0,⟨[(5,.c xs)],[]⟩)])]⟩
def dM:Sig:=.of [.cell false (.sl 117 Tq3)] [J7,J3] (fun a=>Na N a)
def vX (N:Nat):Ju 25 (dM N):=Jw (Jv [(51,SN N),(63,o5 N),(20,MJ N),(64,o6 N),(21,mY N),(62,jK N)] Abp) AcC Tryz.f25 N (Jt ⟨Uh N,AcF N,L9 N,AcG N,uO N,iP N,trivial⟩)
def AdN:List (Nat×Nrm):=[(3,⟨[7],[([7],70,Tq2,1004096)],[],[(1000000,1004096)],[]⟩),(38,⟨[7,26,27,28],[([7],70,Tq2,1000000)],[],[(43776,1000000)],[]⟩)]
def AeY:Lk:=⟨[],[(38,⟨[(7,.c (xo 1000000)),(26,.i),(27,.i),(28,.c x64)],[(1000000,.arr 70 false Tq2)]⟩,[(0,⟨[(7,.c (xo 1004096))],[(1004096,.arr 70 false Tq2)]⟩)])]⟩
def Xk:Sig:=.of [J7] [.cell false (.sl 70 Tq2),J3] (fun a=>NG N a)
def ZM (N:Nat):Ju 188 (Xk N):=Jw (Jv [(225,TQ N),(223,lV N),(226,iE N)] AdN) AeY Tryz.f188 N (Jt ⟨QO N,rY N,nO N,trivial⟩)
def Aby:List (Nat×Nrm):=[(3,⟨[6],[([6],70,Tq2,1004096)],[],[(1000000,1004096)],[]⟩),(34,⟨[6,23,24,25],[([6],70,Tq2,1000000)],[],[(48128,1000000)],[]⟩)]
def AcT:Lk:=⟨[],[(34,⟨[(6,.c (xo 1000000)),(23,.i),(24,.i),(25,.c x64)],[(1000000,.arr 70 false Tq2)]⟩,[(0,⟨[(6,.c (xo 1004096))],[(1004096,.arr 70 false Tq2)]⟩)])]⟩
def eP:Sig:=.of [J7] [.cell false (.sl 70 Tq2),J3] (fun a=>NL N a)
def wI (N:Nat):Ju 228 (eP N):=Jw (Jv [(225,TQ N),(226,iE N)] Aby) AcT Tryz.f228 N (Jt ⟨QO N,nO N,trivial⟩)
def Abm:List (Nat×Nrm):=[(3,⟨[6],[([6],117,Tq3,1008192)],[],[(1000000,1008192)],[]⟩),(34,⟨[6,29,30,31],[([6],117,Tq3,1000000)],[],[(54016,1000000)],[]⟩),(105,⟨[6,9,11,29,30,31],[([6],117,Tq3,1004096)],[(some 35584,3,Ar)],[(1000000,1004096)],[]⟩)]
def AcB:Lk:=⟨[(105,⟨[(6,.c (xo 1004096)),(9,.c (.c (.ptr 35072 0))),(11,.c (.c (.ptr 35584 0))),(29,.i),(30,.i),(31,.i)],[(35072,.box [Bl,x64]),(35584,.box BL),(1004096,.arr 117 false Tq3)]⟩)],[(34,⟨[(6,.c (xo 1000000)),(29,.i),(30,.i),(31,.c x64)],[(1000000,.arr 117 false Tq3)]⟩,[(0,⟨[(6,.c (xo 1008192))],[(1008192,.arr 117 false Tq3)]⟩)])]⟩
def dL:Sig:=.of [J7] [.cell false (.sl 117 Tq3),J3] (fun a=>Qs N a)
def vW (N:Nat):Ju 93 (dL N):=Jw (Jv [(81,X6 N),(153,Qr N),(162,aC N),(163,dR N),(154,NI N),(164,dQ N),(84,MZ N),(51,SN N)] Abm) AcB Tryz.f93 N (Jt ⟨WU N,Pn N,uQ N,wF N,NC N,wE N,MQ N,Uh N,trivial⟩)
open Go.Proofs
def yB:List (Nat×Nrm):=[(3,⟨[],[],[],[],[]⟩),(18,⟨[9,10,11],[],[],[],[]⟩)]
def Aag:Lk:=⟨[],[(18,⟨[(9,.i),(10,.i),(11,.c x64)],[]⟩,[(0,⟨[],[]⟩)])]⟩
def Q4:Sig:=.of [.cell false (.sl 117 Tq3)] [J3] (fun a=>Lm N a)
def RJ (N:Nat):Ju 78 (Q4 N):=Jw (Jv [(152,aT N)] yB) Aag Tryz.f78 N (Jt ⟨vG N,trivial⟩)
def AeC:Sig:=.of [.box [(false,.bool)],Sq7] [J7] (fun a=>Zm N a.1 a.2)
def Aa0 (N:Nat):Ju 123 (AeC N):=Jw (Jv [(187,Xl N),(175,MN N),(167,Nh N)] []) ⟨[],[]⟩ Tryz.f123 N (Jt ⟨ZN N,MF N,ML N,trivial⟩)
def uV:Sig:=.of [Sq6] [J7,J3] (fun a=>Abx N a)
def Aej (N:Nat):Ju 189 (uV N):=Jw (Jv [(151,WX N),(227,eQ N),(217,VK N)] []) ⟨[],[]⟩ Tryz.f189 N (Jt ⟨XB N,wJ N,Tm N,trivial⟩)
def Aec:List (Nat×Nrm):=[(3,⟨[1,5,7],[],[],[],[]⟩),(11,⟨[1,5,10],[],[],[],[]⟩),(19,⟨[1,5,13],[],[],[],[]⟩),(27,⟨[1,5],[],[],[],[]⟩),(37,⟨[1,5,6],[],[],[],[]⟩),(41,⟨[1,5],[([5],42,Tq0,1000000)],[],[(45312,1000000)],[]⟩),(49,⟨[1,5],[],[],[(47872,1008192),(1000000,1008192)],[]⟩),(62,⟨[1,5,7,65,66,67],[],[],[],[]⟩),(81,⟨[1,5],[],[],[(53760,1012288),(1008192,1012288)],[]⟩),(94,⟨[1,5,10,88,89,90],[],[],[],[]⟩),(113,⟨[1,5],[],[],[(60160,1024576),(1012288,1024576)],[]⟩),(126,⟨[1,5,13,113,114,115],[],[],[],[]⟩),(145,⟨[1,5],[],[],[(67584,1036864),(1024576,1036864)],[]⟩),(161,⟨[1,5,16],[],[],[],[]⟩),(169,⟨[1,5,16],[],[],[],[]⟩),(173,⟨[1,5],[],[],[(75008,1049152),(1036864,1049152)],[]⟩),(181,⟨[1,5],[],[],[(77568,1061440),(1049152,1061440)],[]⟩),(193,⟨[1,5],[],[],[(81920,1065536),(1061440,1065536)],[]⟩),(213,⟨[1,5],[],[],[(86016,1069632),(1065536,1069632)],[]⟩),(221,⟨[1,5],[],[],[(88832,1073728),(1069632,1073728)],[]⟩),(229,⟨[1,5],[],[],[(92160,1077824),(1073728,1077824)],[]⟩),(234,⟨[1,5,237,238,239],[],[],[(100096,1077824)],[]⟩)]
def AfP:Lk:=⟨[(37,⟨[(1,.c AL),(5,.c x0),(6,.c xs)],[(33024,.box Bo)]⟩),(41,⟨[(1,.c AL),(5,.c (xo 1000000))],[(33024,.box Bo),(1000000,.arr 42 false Tq0)]⟩),(49,⟨[(1,.c AL),(5,.c (xo 1008192))],[(33024,.box Bo),(1008192,.arr 42 false Tq0)]⟩),(81,⟨[(1,.c AL),(5,.c (xo 1012288))],[(33024,.box Bo),(1012288,.arr 42 false Tq0)]⟩),(113,⟨[(1,.c AL),(5,.c (xo 1024576))],[(33024,.box Bo),(1024576,.arr 42 false Tq0)]⟩),(145,⟨[(1,.c AL),(5,.c (xo 1036864))],[(33024,.box Bo),(1036864,.arr 42 false Tq0)]⟩),(161,⟨[(1,.c AL),(5,.c (xo 1036864)),(16,.c xs)],[(33024,.box Bo),(1036864,.arr 42 false Tq0)]⟩),(169,⟨[(1,.c AL),(5,.c (xo 1036864)),(16,.c xs)],[(33024,.box Bo),(1036864,.arr 42 false Tq0)]⟩),(173,⟨[(1,.c AL),(5,.c (xo 1049152))],[(33024,.box Bo),(1049152,.arr 42 false Tq0)]⟩),(181,⟨[(1,.c AL),(5,.c (xo 1061440))],[(33024,.box Bo),(1061440,.arr 42 false Tq0)]⟩),(193,⟨[(1,.c AL),(5,.c (xo 1065536))],[(33024,.box Bo),(1065536,.arr 42 false Tq0)]⟩),(213,⟨[(1,.c AL),(5,.c (xo 1069632))],[(33024,.box Bo),(1069632,.arr 42 false Tq0)]⟩),(221,⟨[(1,.c AL),(5,.c (xo 1073728))],[(33024,.box Bo),(1073728,.arr 42 false Tq0)]⟩),(229,⟨[(1,.c AL),(5,.c (xo 1077824))],[(33024,.box Bo),(1077824,.arr 42 false Tq0)]⟩)],[(62,⟨[(1,.c AL),(5,.c (xo 1008192)),(7,.c xs),(65,.i),(66,.i),(67,.c x64)],[(33024,.box Bo),(1008192,.arr 42 false Tq0)]⟩,[(0,⟨[(1,.c AL),(5,.c (xo 1008192)),(7,.c xs)],[(33024,.box Bo),(1008192,.arr 42 false Tq0)]⟩)]),(94,⟨[(1,.c AL),(5,.c (xo 1012288)),(10,.c xs),(88,.i),(89,.i),(90,.c x64)],[(33024,.box Bo),(1012288,.arr 42 false Tq0)]⟩,[(2,⟨[(1,.c AL),(5,.c (xo 1012288)),(10,.c xs)],[(33024,.box Bo),(1012288,.arr 42 false Tq0)]⟩)]),(126,⟨[(1,.c AL),(5,.c (xo 1024576)),(13,.c xs),(113,.i),(114,.i),(115,.c x64)],[(33024,.box Bo),(1024576,.arr 42 false Tq0)]⟩,[(4,⟨[(1,.c AL),(5,.c (xo 1024576)),(13,.c xs)],[(33024,.box Bo),(1024576,.arr 42 false Tq0)]⟩)]),(234,⟨[(1,.c AL),(5,.c (xo 1077824)),(237,.c (xo 93440)),(238,.i),(239,.c x64)],[(33024,.box Bo),(93440,.arr 36 false (.sl 117 Tq3 .nil)),(1077824,.arr 42 false Tq0)]⟩,[(6,⟨[(1,.c AL),(5,.c (xo 1077824))],[(33024,.box Bo),(1077824,.arr 42 false Tq0)]⟩)])]⟩
def l9:Sig:=.of [Sq7] [.cell false (.sl 42 Tq0),J3] (fun a=>VG N a)
def Abn (N:Nat):Ju 7 (l9 N):=Jw (Jv [(17,Yy N),(18,y7 N),(19,Abr N),(20,MJ N),(21,mY N),(22,zO N),(23,TJ N),(24,YE N),(25,dM N)] Aec) AfP Tryz.f7 N (Jt ⟨dK N,AfR N,Ahk N,L9 N,uO N,Abi N,UU N,pM N,vX N,trivial⟩)
def Ae6:Sig:=.of [J7,Yo] [J3] (fun a=>RQ N a.1 a.2)
def Aap (N:Nat):Ju 124 (Ae6 N):=Jw (Jv [(177,Xg N),(188,Xk N)] []) ⟨[],[]⟩ Tryz.f124 N (Jt ⟨UD N,ZM N,trivial⟩)
def Ahn:List (Nat×Nrm):=[(46,⟨[2,4,5,8,37,38,39],[],[],[],[]⟩)]
def uU:Sig:=.of [J7] [Sq6,J3] (fun a=>Yf N a)
def Aei (N:Nat):Spec Tryz.prog 190 (uU N):=OG (C:=ctx Tryz.prog [(148,lG N),(225,TQ N),(151,WX N),(228,eP N)] Ahn) (L:=⟨[],[]⟩) (fn:=Tryz.f190) (N:=N+9) (Jt ⟨eX N,QO N,XB N,wI N,trivial⟩)
def yF:List (Nat×Nrm):=[(45,⟨[0,2,4,5],[],[(some 34048,0,Tq2)],[],[]⟩),(73,⟨[0,2,4,5],[],[],[],[]⟩),(105,⟨[0,2,4,5],[],[(some 34048,3,Ar)],[],[]⟩)]
def Aal:Lk:=⟨[(45,⟨[(0,.c AQ),(2,.c AB),(4,.c AP),(5,.c AV)],[(0,.box [Bl]),(33280,.box BJ),(33281,.JR 70 false Tq2),(33284,.JR 165 false Ar),(33792,.box BK),(33793,.JR 70 false Tq2),(33796,.JR 165 false Ar),(34048,.box [Be,Az,AO,(xo 34052)]),(34052,.JR 165 false Ar)]⟩),(73,⟨[(0,.c AQ),(2,.c AB),(4,.c AP),(5,.c AV)],[(0,.box [Bl]),(33280,.box BJ),(33281,.JR 70 false Tq2),(33284,.JR 165 false Ar),(33792,.box BK),(33793,.JR 70 false Tq2),(33796,.JR 165 false Ar),(34048,.box [Be,x64,AO,(xo 34052)]),(34052,.JR 165 false Ar)]⟩),(105,⟨[(0,.c AQ),(2,.c AB),(4,.c AP),(5,.c AV)],[(0,.box [Bl]),(33280,.box BJ),(33281,.JR 70 false Tq2),(33284,.JR 165 false Ar),(33792,.box BK),(33793,.JR 70 false Tq2),(33796,.JR 165 false Ar),(34048,.box BL)]⟩)],[]⟩
def ZF:Sig:=.of [fK] [Sq8,J3] (fun a=>SI N a)
def qV (N:Nat):Ju 230 (ZF N):=Jw (Jv [(171,RY N),(177,Xg N),(188,Xk N),(178,tV N),(173,NU N)] yF) Aal Tryz.f230 N (Jt ⟨SL N,UD N,ZM N,xK N,NQ N,trivial⟩)
def AlV:List (Nat×Nrm):=[(7,⟨[12],[],[],[(6,1004096),(1000000,1004096)],[]⟩),(15,⟨[16],[],[],[(7,1012288),(1008192,1012288)],[]⟩),(126,⟨[0,12,126,127,128],[],[],[(6,1000000),(68864,1000000)],[]⟩),(158,⟨[0,16,154,155,156],[],[],[(7,1008192),(77056,1008192)],[]⟩)]
def AnQ:Lk:=⟨[],[(126,⟨[(0,.c AQ),(12,.i),(126,.i),(127,.i),(128,.c x64)],[(0,.box [xb,xb,x64,x64,Bg,(xo 1000000),(xo 7),x64,x64,x64,Be,xb,Be,Be,xs,xs,Bf,Bf,(xo 19)]),(7,.arr 58 true (.str Aq)),(19,.arr 42 true Tq0),(1000000,.arr 9 true Aq)]⟩,[(1,⟨[(12,.i)],[(0,.box [xb,xb,x64,x64,Bg,(xo 1004096),(xo 7),x64,x64,x64,Be,xb,Be,Be,xs,xs,Bf,Bf,(xo 19)]),(7,.arr 58 true (.str Aq)),(19,.arr 42 true Tq0),(1004096,.arr 9 true Aq)]⟩)]),(158,⟨[(0,.c AQ),(16,.i),(154,.i),(155,.i),(156,.c x64)],[(0,.box [xb,xb,x64,x64,Bg,(xo 6),(xo 1008192),x64,x64,x64,Be,xb,Be,Be,xs,xs,Bf,Bf,(xo 19)]),(6,.arr 9 true Aq),(19,.arr 42 true Tq0),(1008192,.arr 58 true (.str Aq))]⟩,[(3,⟨[(16,.i)],[(0,.box [xb,xb,x64,x64,Bg,(xo 6),(xo 1012288),x64,x64,x64,Be,xb,Be,Be,xs,xs,Bf,Bf,(xo 19)]),(6,.arr 9 true Aq),(19,.arr 42 true Tq0),(1012288,.arr 58 true (.str Aq))]⟩)])]⟩
def Adu:Sig:=.of [A1l,Asw] [J3] (fun a=>Kr N a.1 a.2)
def AiI (N:Nat):Ju 40 (Adu N):=Jw (Jv [(81,X6 N),(82,AfU N),(83,Adt N),(84,MZ N),(85,Zd N),(86,uP N),(87,fH N),(88,AfW N),(89,mZ N),(90,TG N),(91,YD N),(92,dP N),(93,dL N),(54,mP N)] AlV) AnQ Tryz.f40 N (Jt ⟨WU N,Ak0 N,AiH N,MQ N,Z8 N,y8 N,zU N,Ak1 N,uS N,UR N,pK N,wB N,vW N,tY N,trivial⟩)
open Go.Proofs
def AhI:List (Nat×Nrm):=[(3,⟨[1,10],[],[],[],[]⟩),(130,⟨[1,10,120,121,122],[],[],[],[]⟩)]
def Aje:Lk:=⟨[],[(130,⟨[(1,.c AL),(10,.c x64),(120,.i),(121,.i),(122,.c x64)],[(33024,.box Bo)]⟩,[(0,⟨[(1,.c AL),(10,.c x64)],[(33024,.box Bo)]⟩)])]⟩
def aS:Sig:=.of [Sq7] [J3] (fun a=>Tc N a)
def jY (N:Nat):Ju 36 (aS N):=Jw (Jv [(73,Aa6 N),(74,jZ N),(75,Yj N),(76,Vo N),(77,VO N),(78,Q4 N),(44,XI N),(79,Y1 N)] AhI [] [(127,AeL N)] [] [15,19,20,24,28,29,34,39,40,45,46,51,52,56,57,61]) Aje Tryz.f36 N (Jt ⟨AgN N,Aah N,lM N,Yk N,eY N,RJ N,Yt N,oL N,trivial⟩ trivial ⟨Ajm N,trivial⟩)
def rD:Sig:=.of [.box [(false,.bool)],Sq7] [J7] (fun a=>TY N a.1 a.2)
def kF (N:Nat):Ju 126 (rD N):=Jw (Jv [(189,uV N),(175,MN N)] []) ⟨[],[]⟩ Tryz.f126 N (Jt ⟨Aej N,MF N,trivial⟩)
def vC:List (Nat×Nrm):=[(3,⟨[5,6],[([6],9,Aq,1016384)],[],[(1000000,1016384)],[]⟩),(38,⟨[5,6,22,23,24],[([6],9,Aq,1000000)],[],[(54272,1000000)],[]⟩),(57,⟨[5,6,8,9,22,23,24],[([6],9,Aq,1004096)],[],[(1000000,1004096)],[]⟩),(65,⟨[5,6,8,9,22,23,24],[([6],9,Aq,1008192)],[],[(1004096,1008192)],[]⟩),(77,⟨[5,6,9,22,23,24],[([6],9,Aq,1012288)],[],[(1008192,1012288)],[]⟩)]
def yD:Lk:=⟨[(57,⟨[(5,.c AZ),(6,.c (xo 1004096)),(8,.c AX),(9,.c (xo 39936)),(22,.i),(23,.i),(24,.i)],[(34816,.box BL),(38144,.box [xb]),(39936,.arr 9 false Aq),(1004096,.arr 9 false Aq)]⟩),(65,⟨[(5,.c AZ),(6,.c (xo 1008192)),(8,.c AX),(9,.c (xo 39936)),(22,.i),(23,.i),(24,.i)],[(34816,.box BL),(38144,.box [xb]),(39936,.arr 9 false Aq),(1008192,.arr 9 false Aq)]⟩),(77,⟨[(5,.c AZ),(6,.c (xo 1012288)),(9,.c (xo 39936)),(22,.i),(23,.i),(24,.i)],[(38144,.box [xb]),(39936,.arr 9 false Aq),(1012288,.arr 9 false Aq)]⟩)],[(38,⟨[(5,.c AZ),(6,.c (xo 1000000)),(22,.i),(23,.i),(24,.c x64)],[(38144,.box [xb]),(1000000,.arr 9 false Aq)]⟩,[(0,⟨[(5,.c AZ),(6,.c (xo 1016384))],[(38144,.box [xb]),(1016384,.arr 9 false Aq)]⟩)])]⟩
def TW:Sig:=.of [.cell false (.sl 117 Tq3)] [J7,J3] (fun a=>Vl N a)
def WI (N:Nat):Ju 193 (TW N):=Jw (Jv [(78,Q4 N),(187,Xl N),(175,MN N),(174,Mc N),(176,dA N),(224,XT N),(167,Nh N),(45,Zo N)] vC) yD Tryz.f193 N (Jt ⟨RJ N,ZN N,MF N,LP N,kU N,Yu N,ML N,fB N,trivial⟩)
def qW:Sig:=.of [J7,Yo] [J3] (fun a=>Om N a.1 a.2)
def kC (N:Nat):Ju 127 (qW N):=Jw (Jv [(190,uU N)] []) ⟨[],[]⟩ Tryz.f127 N (Jt ⟨Aei N,trivial⟩)
def uZ:List (Nat×Nrm):=[(3,⟨[6],[([6],117,Tq3,1004096)],[],[(1000000,1004096)],[]⟩),(30,⟨[4,6],[([6],117,Tq3,1000000)],[],[(44032,1000000)],[]⟩)]
def yC:Lk:=⟨[],[(30,⟨[(4,.c (.c (.ptr 36096 0))),(6,.c (xo 1000000))],[(36096,.box [Bl]),(1000000,.arr 117 false Tq3)]⟩,[(0,⟨[(6,.c (xo 1004096))],[(1004096,.arr 117 false Tq3)]⟩)])]⟩
def TV:Sig:=.of [J7] [.cell false (.sl 117 Tq3),J3] (fun a=>OM N a)
def WH (N:Nat):Ju 194 (TV N):=Jw (Jv [(181,Px N),(230,ZF N),(78,Q4 N)] uZ [(169,XL N),(222,PK N)]) yC Tryz.f194 N (Jt ⟨OW N,qV N,RJ N,trivial⟩ ⟨aZ N,UE N,trivial⟩)
def Aeb:List (Nat×Nrm):=[(3,⟨[2,4],[],[],[(36614,1004128),(36615,1004112),(36627,1004096),(1000000,1004096),(1000016,1004112),(1000032,1004128)],[]⟩),(22,⟨[0,2,4,16,17,18],[],[],[(33798,1000032),(33799,1000016),(33811,1000000),(36614,1000032),(36615,1000016),(36627,1000000)],[]⟩)]
def AfO:Lk:=⟨[],[(22,⟨[(0,.i),(2,.c AB),(4,.c AP),(16,.i),(17,.i),(18,.c x64)],[(33280,.box Bq),(33285,.JR 9 false Aq),(33286,.JR 9 false Aq),(33287,.JR 58 false (.str Aq)),(33291,.JR 70 false Tq2),(33293,.JR 70 false Tq2),(33294,.JR 70 false Tq2),(33297,.JR 117 false Tq3),(33298,.JR 117 false Tq3),(33299,.JR 42 false Tq0),(33792,.box [xb,xb,x64,x64,Bg,(xo 1000032),(xo 1000016),x64,x64,x64,Be,xb,Be,Be,xs,xs,Bf,Bf,(xo 1000000)]),(1000000,.arr 42 true Tq0),(1000016,.arr 58 true (.str Aq)),(1000032,.arr 9 true Aq)]⟩,[(0,⟨[(2,.c AB),(4,.c AP)],[(33280,.box Bq),(33285,.JR 9 false Aq),(33286,.JR 9 false Aq),(33287,.JR 58 false (.str Aq)),(33291,.JR 70 false Tq2),(33293,.JR 70 false Tq2),(33294,.JR 70 false Tq2),(33297,.JR 117 false Tq3),(33298,.JR 117 false Tq3),(33299,.JR 42 false Tq0),(33792,.box [xb,xb,x64,x64,Bg,(xo 1004128),(xo 1004112),x64,x64,x64,Be,xb,Be,Be,xs,xs,Bf,Bf,(xo 1004096)]),(1004096,.arr 42 true Tq0),(1004112,.arr 58 true (.str Aq)),(1004128,.arr 9 true Aq)]⟩)])]⟩
def l7:Sig:=.of [.cell false (.sl 42 Tq0)] [Sq7,J3] (fun a=>Qa N a)
def Abl (N:Nat):Ju 13 (l7 N):=Jw (Jv [(26,uK N),(37,Oy N),(38,uJ N),(39,o7 N),(40,Adu N),(17,Yy N)] Aeb) AfO Tryz.f13 N (Jt ⟨xZ N,Ol N,xY N,AcI N,AiI N,dK N,trivial⟩)
open Go.Proofs
def AdB:Sig:=.of [.box [(false,.bool)],Sq7] [J7] (fun a=>Yr N a.1 a.2)
def yN (N:Nat):Ju 135 (AdB N):=Jw (Jv [(193,TW N),(175,MN N)] []) ⟨[],[]⟩ Tryz.f135 N (Jt ⟨WI N,MF N,trivial⟩)
def Aax:Sig:=.of [.box [(false,.bool)],Sq7] [J7] (fun a=>Wv N a.1 a.2)
def rE (N:Nat):Ju 138 (Aax N):=Jw (Jv [(193,TW N),(175,MN N)] []) ⟨[],[]⟩ Tryz.f138 N (Jt ⟨WI N,MF N,trivial⟩)
def Ad5:Sig:=.of [J7,Yo] [J3] (fun a=>QR N a.1 a.2)
def yI (N:Nat):Ju 136 (Ad5 N):=Jw (Jv [(194,TV N)] []) ⟨[],[]⟩ Tryz.f136 N (Jt ⟨WH N,trivial⟩)
def Aan:Sig:=.of [J7,Yo] [J3] (fun a=>PE N a.1 a.2)
def qX (N:Nat):Ju 139 (Aan N):=Jw (Jv [(194,TV N)] []) ⟨[],[]⟩ Tryz.f139 N (Jt ⟨WH N,trivial⟩)
open Go.Proofs
def Amk (N n:Nat):Sig:=.of [.box [(false,.bool)],Sq7] [.cell false .str] (ArR N n)
def AsT (N:Nat):aI Tryz.prog (Amk N):=qB (Jz:=[.box [(false,.bool)],Sq7]) (JI:=[.cell false .str]) (l:=[(102,fun a=>Zl N a.1 a.2),(105,fun a=>Zn N a.1 a.2),(108,fun a=>W9 N a.1 a.2),(111,fun a=>Wy N a.1 a.2),(114,fun a=>Wx N a.1 a.2),(117,fun a=>Yq N a.1 a.2),(120,fun a=>Xd N a.1 a.2),(123,fun a=>Zm N a.1 a.2),(126,fun a=>TY N a.1 a.2),(129,fun a=>Xe N a.1 a.2),(132,fun a=>Vt N a.1 a.2),(135,fun a=>Yr N a.1 a.2),(138,fun a=>Wv N a.1 a.2)]) ⟨Aaw N,Aa5 N,rH N,rG N,rF N,yL N,vN N,Aa0 N,kF N,vO N,oN N,yN N,rE N,trivial⟩
def Aml (N n:Nat):Sig:=.of [.cell false .str,Yo] [.cell false (.int .i64)] (Agu N n)
def AsU (N:Nat):aI Tryz.prog (Aml N):=qB (Jz:=[.cell false .str,Yo]) (JI:=[.cell false (.int .i64)]) (l:=[(103,fun a=>RP N a.1 a.2),(106,fun a=>RS N a.1 a.2),(109,fun a=>PI N a.1 a.2),(112,fun a=>PH N a.1 a.2),(115,fun a=>PG N a.1 a.2),(118,fun a=>QQ N a.1 a.2),(121,fun a=>Qm N a.1 a.2),(124,fun a=>RQ N a.1 a.2),(127,fun a=>Om N a.1 a.2),(130,fun a=>Qn N a.1 a.2),(133,fun a=>OT N a.1 a.2),(136,fun a=>QR N a.1 a.2),(139,fun a=>PE N a.1 a.2)]) ⟨Aam N,Aat N,rC N,qZ N,qY N,yH N,vI N,Aap N,kC N,vM N,oM N,yI N,qX N,trivial⟩
open Go.Proofs
def AgI:List (Nat×Nrm):=[(3,⟨[1,5,6],[([6],42,Tq0,1004096)],[],[(1000000,1004096)],[]⟩),(30,⟨[1,5,6,16,17,18],[([6],42,Tq0,1000000)],[],[(44032,1000000)],[]⟩)]
def AhK:Lk:=⟨[],[(30,⟨[(1,.c AL),(5,.c (.c (.ptr 36608 0))),(6,.c (xo 1000000)),(16,.i),(17,.i),(18,.c x64)],[(33024,.box Bo),(36608,.box [xb]),(1000000,.arr 42 false Tq0)]⟩,[(0,⟨[(1,.c AL),(5,.c (.c (.ptr 36608 0))),(6,.c (xo 1004096))],[(33024,.box Bo),(36608,.box [xb]),(1004096,.arr 42 false Tq0)]⟩)])]⟩
def qR:Sig:=.of [Sq7] [.cell false (.sl 42 Tq0),J3] (fun a=>fQ N a)
def Ad2 (N:Nat):Ju 16 (qR N):=Jw (Jv [(36,aS N),(44,XI N),(45,Zo N)] AgI [] [(23,AeL N),(38,Amk N)]) AhK Tryz.f16 N (Jt ⟨jY N,Yt N,fB N,trivial⟩ trivial ⟨Ajm N,AsT N,trivial⟩)
def Ajg:List (Nat×Nrm):=[(3,⟨[0,5],[],[],[],[]⟩),(18,⟨[0,5,15,16,17],[],[],[],[]⟩)]
def AkS:Lk:=⟨[],[(18,⟨[(0,.c AQ),(5,.c AV),(15,.i),(16,.i),(17,.c x64)],[(0,.box BD),(5,.arr 9 true Aq),(6,.arr 9 true Aq),(7,.arr 58 true (.str Aq)),(19,.arr 42 true Tq0),(34048,.box [xs,xb,xs])]⟩,[(0,⟨[(0,.c AQ),(5,.c AV)],[(0,.box BD),(5,.arr 9 true Aq),(6,.arr 9 true Aq),(7,.arr 58 true (.str Aq)),(19,.arr 42 true Tq0),(34048,.box [xs,xb,xs])]⟩)])]⟩
def Aa7:Sig:=.of [Yo,.cell false (.sl 42 Tq0),Asw] [J3] (fun a=>Np N a.1 a.2.1 a.2.2)
def AgO (N:Nat):Ju 35 (Aa7 N):=Jw (Jv [(70,Wn N),(71,fV N),(72,zX N)] Ajg [] [(66,Aml N)] [] [51,55,56,60,63,64]) AkS Tryz.f35 N (Jt ⟨UJ N,nK N,Ab1 N,trivial⟩ trivial ⟨AsU N,trivial⟩)
open Go.Proofs
def Adb:Sig:=.of [] [JM] (fun _=>Y4 N)
def Aif (N:Nat):Ju 5 (Adb N):=Jw (Jv [(15,fU N),(16,qR N)] [] [] [] [] [22,26,27,33,34,37,38,42]) ⟨[],[]⟩ Tryz.f5 N (Jt ⟨nJ N,Ad2 N,trivial⟩)
def AgH:List (Nat×Nrm):=[(3,⟨[2,4],[],[],[(36101,1004144),(36102,1004128),(36103,1004112),(36115,1004096),(1000000,1004096),(1000016,1004112),(1000032,1004128),(1000048,1004144)],[]⟩),(22,⟨[0,2,4,14,15,16],[],[],[(33797,1000048),(33798,1000032),(33799,1000016),(33811,1000000),(36101,1000048),(36102,1000032),(36103,1000016),(36115,1000000)],[]⟩)]
def AhJ:Lk:=⟨[],[(22,⟨[(0,.i),(2,.c AB),(4,.c AP),(14,.i),(15,.i),(16,.c x64)],[(33280,.box Bq),(33285,.JR 9 false Aq),(33286,.JR 9 false Aq),(33287,.JR 58 false (.str Aq)),(33291,.JR 70 false Tq2),(33293,.JR 70 false Tq2),(33294,.JR 70 false Tq2),(33297,.JR 117 false Tq3),(33298,.JR 117 false Tq3),(33299,.JR 42 false Tq0),(33792,.box Bv),(1000000,.arr 42 true Tq0),(1000016,.arr 58 true (.str Aq)),(1000032,.arr 9 true Aq),(1000048,.arr 9 true Aq)]⟩,[(0,⟨[(2,.c AB),(4,.c AP)],[(33280,.box Bq),(33285,.JR 9 false Aq),(33286,.JR 9 false Aq),(33287,.JR 58 false (.str Aq)),(33291,.JR 70 false Tq2),(33293,.JR 70 false Tq2),(33294,.JR 70 false Tq2),(33297,.JR 117 false Tq3),(33298,.JR 117 false Tq3),(33299,.JR 42 false Tq0),(33792,.box [xb,xb,x64,x64,(xo 1004144),(xo 1004128),(xo 1004112),x64,x64,x64,Be,xb,Be,Be,xs,xs,Bf,Bf,(xo 1004096)]),(1004096,.arr 42 true Tq0),(1004112,.arr 58 true (.str Aq)),(1004128,.arr 9 true Aq),(1004144,.arr 9 true Aq)]⟩)])]⟩
def qQ:Sig:=.of [.cell false (.sl 42 Tq0)] [Sq7,J3] (fun a=>RF N a)
def Ad1 (N:Nat):Ju 12 (qQ N):=Jw (Jv [(15,fU N),(35,Aa7 N),(36,aS N)] AgH) AhJ Tryz.f12 N (Jt ⟨nJ N,AgO N,jY N,trivial⟩)
open Go.Proofs
def yY:List (Nat×Nrm):=[(7,⟨[],[],[],[],[]⟩),(77,⟨[0,2,3,9,10,12,13],[],[],[(43264,1000000),(57088,1000000)],[]⟩),(86,⟨[125,126,127],[],[],[],[]⟩)]
def AaM:Lk:=⟨[(77,⟨[(0,.i),(2,.i),(3,.i),(9,.c (.c (.ptr 40960 0))),(10,.i),(12,.c (xo 42752)),(13,.c (xo 1000000))],[(40960,.box Bz),(42752,.arr 9 false Aq),(1000000,.arr 42 false Tq0)]⟩)],[(86,⟨[(125,.c (xo 64768)),(126,.i),(127,.c x64)],[(64768,.arr 22 false (.sl 42 Tq0 .nil))]⟩,[(1,⟨[],[]⟩)])]⟩
def AaN:Sig:=.of [.cell false (.sl 42 Tq0),Asv,.cell false (.int .u8),J7] [JM] (fun a=>PM N a.1 a.2.1 a.2.2.1 a.2.2.2)
def sJ (N:Nat):Ju 3 (AaN N):=Jw (Jv [(4,Y8 N),(5,Adb N),(6,AjR N),(8,Ah2 N),(7,l9 N),(9,La N),(10,lY N),(11,Ade N),(12,qQ N),(13,l7 N),(14,Adc N)] yY) AaM Tryz.f3 N (Jt ⟨pF N,Aif N,Anp N,Al4 N,Abn N,KW N,sO N,Aio N,Ad1 N,Abl N,Aig N,trivial⟩)
end
end Go.Proofs.YtakmjgnpefmjhaaGreatDoor.Vm
