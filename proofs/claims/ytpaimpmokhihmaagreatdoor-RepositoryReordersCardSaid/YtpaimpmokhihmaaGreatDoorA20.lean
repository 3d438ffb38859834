import Derived.Test.YtpaimpmokhihmaaGreatDoorA19
set_option linter.all false
namespace Go.Proofs.YtpaimpmokhihmaaGreatDoor.Vm
noncomputable section
variable (N:Nat)
open Go.Proofs Go.Proofs.Tryz
def nR:=JB 269 [Js] [Sq6,Jq] (Zy N) [TQ N,PO N] f269 N
def nS:Ajs:=[(53,⟨[2,4,5,6],[],[(some AiT,0,Tq3)],[],[]⟩),Ajq 105 [2,4,5,6]]
def sO:Lk:=⟨[(53,⟨[(2,.c AA),(4,.c AL),(5,.c AP),(6,.c (.c (.ptr 36864 0)))],[(AiP,.box [(xo AiW),AB,AB,A7,AB]),(AiW,.KO 112 false Tq3),(AiS,.box [(xo AiZ),AB,AB,A7,AB]),(AiZ,.KO 112 false Tq3),(AiT,.box [Be,AB,AB,A7,AB]),(36864,.box [Bh])]⟩),(105,⟨[(2,.c AA),(4,.c AL),(5,.c AP),(6,.c (.c (.ptr 36864 0)))],[(AiP,.box [(xo AiW),AB,AB,A7,AB]),(AiW,.KO 112 false Tq3),(AiS,.box [(xo AiZ),AB,AB,A7,AB]),(AiZ,.KO 112 false Tq3),(AiT,.box [Be,xb,xb,x64,AB]),(36864,.box [Bh])]⟩)],[]⟩
def sQ:=JA 187 [Js] [AfS,Jq] (bF N) [NI N,TQ N,PO N,iW N,eG N,MM N] nS sO f187 N (aa:=[(28,Qa N)]) (hA:=⟨Rt N,trivial⟩)
def Xl:Ajs:=[Ajq 3 [],Ajq 18 [9,10,11]]
def XJ:Lk:=⟨[],[(18,⟨[(9,.i),(10,.i),(11,.c x64)],[]⟩,[(0,⟨[],[]⟩)])]⟩
def OE:=JA 70 [.cell false (.sl 204 Tq5)] [Jq] (NT N) [Y1 N] Xl XJ f70 N
def Xq:Ajs:=[(45,⟨[0,2,4,5],[],[(some AiT,0,Tq3)],[],[]⟩),Ajq 73 [0,2,4,5],(105,⟨[0,2,4,5],[],[(some AiT,3,Aq)],[],[]⟩)]
def XM:Lk:=⟨[(45,⟨[(0,.c AU),(2,.c AA),(4,.c AL),(5,.c AP)],[(0,.box [Bh]),(AiP,.box BA),(AiW,.KO 112 false Tq3),(33284,.KO 91 false Aq),(AiS,.box BB),(AiZ,.KO 112 false Tq3),(33796,.KO 91 false Aq),(AiT,.box [Be,A7,AB,(xo 34052)]),(34052,.KO 91 false Aq)]⟩),(73,⟨[(0,.c AU),(2,.c AA),(4,.c AL),(5,.c AP)],[(0,.box [Bh]),(AiP,.box BA),(AiW,.KO 112 false Tq3),(33284,.KO 91 false Aq),(AiS,.box BB),(AiZ,.KO 112 false Tq3),(33796,.KO 91 false Aq),(AiT,.box [Be,x64,AB,(xo 34052)]),(34052,.KO 91 false Aq)]⟩),(105,⟨[(0,.c AU),(2,.c AA),(4,.c AL),(5,.c AP)],[(0,.box [Bh]),(AiP,.box BA),(AiW,.KO 112 false Tq3),(33284,.KO 91 false Aq),(AiS,.box BB),(AiZ,.KO 112 false Tq3),(33796,.KO 91 false Aq),(AiT,.box BG)]⟩)],[]⟩
def XN:=JA 273 [Sq4] [Ah5,Jq] (SB N) [NI N,TQ N,PO N,eG N,MM N] Xq XM f273 N
def nU:Ajs:=[Ajq 17 [0,3,5,6],Ajq 25 [0,3,5,6]]
def sW:Lk:=⟨[(17,⟨[(0,.c AU),(3,.c AO),(5,.c xs),(6,.i)],[(0,.box [xb]),(AiU,.box [Be,xb,xb,x64,xb])]⟩),(25,⟨[(0,.c AU),(3,.c AO),(5,.i),(6,.c xs)],[(0,.box [xb]),(AiU,.box [Be,xb,xb,x64,xb])]⟩)],[]⟩
def sZ:=JA 146 [.box [(false,.bool)],AfS] [Js] (fun a=>bJ N a.1 a.2) [TS N,MO N,Lr N,Xd N,iY N,NJ N] nU sW f146 N
def WR:Ajs:=[(17,⟨[1,4],[([4],182,Tq2,AiL)],[],[(37888,AiL)],[]⟩),(29,⟨[1,4],[],[],[(39680,AiM),(42240,AiM)],[]⟩),(41,⟨[1,4],[],[],[(49664,AiN),(AiM,AiN)],[]⟩)]
def XA:Lk:=⟨[(17,⟨[(1,.c AQ),(4,.c (xo AiL))],[(AiX,.box Bi),(AiL,.arr 182 false Tq2)]⟩),(29,⟨[(1,.c AQ),(4,.c (xo AiM))],[(AiX,.box Bi),(AiM,.arr 182 false Tq2)]⟩),(41,⟨[(1,.c AQ),(4,.c (xo AiN))],[(AiX,.box Bi),(AiN,.arr 182 false Tq2)]⟩)],[]⟩
def XB:=JA 51 [Q8] [.cell false (.sl 182 Tq2),Jq] (Sj N) [KW N,Ti N,UQ N,qZ N,ZK N,Zj N] WR XA f51 N
open Go.Proofs Go.Proofs.Tryz
def nZ:=JB 184 [AiE,Aaj] [Jq] (fun a=>Z5 N a.1 a.2) [Zz N,xK N,nR N] f184 N
def WE:Ajs:=[(3,⟨[6],[([6],204,Tq5,AiM)],[],[(AiL,AiM)],[]⟩),(30,⟨[4,6],[([6],204,Tq5,AiL)],[],[(44032,AiL)],[]⟩)]
def Xm:Lk:=⟨[],[(30,⟨[(4,.c (.c (.ptr Ajg 0))),(6,.c (xo AiL))],[(Ajg,.box [Bh]),(AiL,.arr 204 false Tq5)]⟩,[(0,⟨[(6,.c (xo AiM))],[(AiM,.arr 204 false Tq5)]⟩)])]⟩
def Xn:=JA 188 [Js] [.cell false (.sl 204 Tq5),Jq] (Rl N) [UH N,XN N,OE N] WE Xm f188 N (aa:=[(28,Qa N),(125,NU N)]) (hA:=⟨Rt N,QQ N,trivial⟩)
def Aau:Ajs:=[Ajq 3 [],Ajq 94 [1,88,89]]
def Acd:Lk:=⟨[],[(94,⟨[(1,.c AQ),(88,.i),(89,.c x64)],[(AiX,.box Bi)]⟩,[(0,⟨[],[]⟩)])]⟩
def jT:=JA 34 [Q8] [Jq] (aX N) [NZ N,nY N,l7 N,OE N,kY N] Aau Acd f34 N (bb:=[40,45,46,50,56,57])
def WG:Ajs:=[(3,⟨[5,6],[([6],9,Aw,AiQ)],[],[(AiL,AiQ)],[]⟩),(38,⟨[5,6,22,23,24],[([6],9,Aw,AiL)],[],[(54272,AiL)],[]⟩),(57,⟨[5,6,8,9,22,23,24],[([6],9,Aw,AiM)],[],[(AiL,AiM)],[]⟩),(65,⟨[5,6,8,9,22,23,24],[([6],9,Aw,AiN)],[],[(AiM,AiN)],[]⟩),(77,⟨[5,6,9,22,23,24],[([6],9,Aw,AiO)],[],[(AiN,AiO)],[]⟩)]
def Xo:Lk:=⟨[(57,⟨[(5,.c AV),(6,.c (xo AiM)),(8,.c Ba),(9,.c (xo 39936)),(22,.i),(23,.i),(24,.i)],[(Aja,.box BG),(Ajd,.box [xb]),(39936,.arr 9 false Aw),(AiM,.arr 9 false Aw)]⟩),(65,⟨[(5,.c AV),(6,.c (xo AiN)),(8,.c Ba),(9,.c (xo 39936)),(22,.i),(23,.i),(24,.i)],[(Aja,.box BG),(Ajd,.box [xb]),(39936,.arr 9 false Aw),(AiN,.arr 9 false Aw)]⟩),(77,⟨[(5,.c AV),(6,.c (xo AiO)),(9,.c (xo 39936)),(22,.i),(23,.i),(24,.i)],[(Ajd,.box [xb]),(39936,.arr 9 false Aw),(AiO,.arr 9 false Aw)]⟩)],[(38,⟨[(5,.c AV),(6,.c (xo AiL)),(22,.i),(23,.i),(24,.c x64)],[(Ajd,.box [xb]),(AiL,.arr 9 false Aw)]⟩,[(0,⟨[(5,.c AV),(6,.c (xo AiQ))],[(Ajd,.box [xb]),(AiQ,.arr 9 false Aw)]⟩)])]⟩
def Xp:=JA 147 [.cell false (.sl 204 Tq5)] [Js,Jq] (Rn N) [OE N,TS N,MO N,Lr N,Xd N,SQ N,NJ N,V8 N] WG Xo f147 N
def X8:Ajs:=[Ajq 3 [1,5,7,9,11],Ajq 42 [1,5,7,9,11,12,46,47,48],Ajq 81 [1,5,7,9,11]]
def Ym:Lk:=⟨[(81,⟨[(1,.c AQ),(5,.i),(7,.i),(9,.i),(11,.c xs)],[(AiX,.box Bi)]⟩)],[(42,⟨[(1,.c AQ),(5,.i),(7,.i),(9,.i),(11,.c xs),(12,.c (.c (.ptr 35840 0))),(46,.i),(47,.i),(48,.c x64)],[(AiX,.box Bi),(35840,.box [Bd])]⟩,[(0,⟨[(1,.c AQ),(5,.i),(7,.i),(9,.i),(11,.c xs)],[(AiX,.box Bi)]⟩)])]⟩
def Yn:=JA 26 [Q8] [Js,Jq] (SH N) [jL N,Ub N,TY N,zF N,Qv N,XB N,rC N,Ti N,UN N] X8 Ym f26 N
open Go.Proofs Go.Proofs.Tryz
def bC:Ajs:=[Ajq 3 [0,4,6,7],Ajq 66 [0,4,6,7,57,58,59],Ajq 89 [0,4,6,7]]
def iT:Lk:=⟨[(89,⟨[(0,.c AU),(4,.c AL),(6,.c Bc),(7,.c AZ)],[(0,.box [Bh]),(AiS,.box BD),(33797,.KO 91 false Aq),(Aje,.box BF),(34409,.KO 91 false Aq),(AiV,.box Bl)]⟩)],[(66,⟨[(0,.c AU),(4,.c AL),(6,.c Bc),(7,.c AZ),(57,.i),(58,.i),(59,.c x64)],[(0,.box [Bh]),(AiS,.box BD),(33797,.KO 91 false Aq),(Aje,.box BF),(34409,.KO 91 false Aq),(AiV,.box Bl)]⟩,[(0,⟨[(0,.c AU),(4,.c AL),(6,.c Bc),(7,.c AZ)],[(0,.box [Bh]),(AiS,.box BD),(33797,.KO 91 false Aq),(Aje,.box BF),(34409,.KO 91 false Aq),(AiV,.box Bl)]⟩)])]⟩
def iU:=JA 126 [Sq4,Sq6] [AfR,Jq] (fun a=>WX N a.1 a.2) [sK N,bH N,o5 N,NI N,cZ N,nZ N,MM N] bC iT f126 N
def tC:=JB 127 [AfT,Aaj] [Jq] (fun a=>bK N a.1 a.2) [bD N,Zz N,sQ N,Xn N] f127 N
def XQ:Ajs:=[(17,⟨[0,3,5],[([5],182,Tq2,AiL)],[],[(37888,AiL)],[]⟩),(29,⟨[0,3,5],[],[],[(39936,AiM),(42752,AiM)],[]⟩),(37,⟨[0,3,5],[],[],[(45312,AiN),(AiM,AiN)],[]⟩)]
def Y4:Lk:=⟨[(17,⟨[(0,.c AU),(3,.c AO),(5,.c (xo AiL))],[(0,.box [xb]),(AiU,.box Bi),(AiL,.arr 182 false Tq2)]⟩),(29,⟨[(0,.c AU),(3,.c AO),(5,.c (xo AiM))],[(0,.box [xb]),(AiU,.box Bi),(AiM,.arr 182 false Tq2)]⟩),(37,⟨[(0,.c AU),(3,.c AO),(5,.c (xo AiN))],[(0,.box [xb]),(AiU,.box Bi),(AiN,.arr 182 false Tq2)]⟩)],[]⟩
def Y5:=JA 81 [.box [(false,.bool)],Q8] [.cell false (.sl 182 Tq2)] (fun a=>TP N a.1 a.2) [Lr N,NJ N,QC N,sZ N,Xp N,MO N] XQ Y4 f81 N
def jA:=JB 17 [Q8] [Js] (Xb N) [Yn N,AbB N] f17 N
open Go.Proofs Go.Proofs.Tryz
def Y3:Ajs:=[(3,⟨[8],[([8],121,Tq4,AiM)],[],[(AiL,AiM)],[]⟩),(30,⟨[3,6,8],[([8],121,Tq4,AiL)],[],[(44544,AiL)],[]⟩)]
def ZP:Lk:=⟨[],[(30,⟨[(3,.c AO),(6,.c (.c (.ptr 36352 0))),(8,.c (xo AiL))],[(AiU,.box [Bd]),(36352,.box [Bh]),(AiL,.arr 121 false Tq4)]⟩,[(0,⟨[(8,.c (xo AiM))],[(AiM,.arr 121 false Tq4)]⟩)])]⟩
def ZQ:=JA 63 [Js,Sq6] [.cell false (.sl 121 Tq4),Jq] (fun a=>UG N a.1 a.2) [UH N,iU N] Y3 ZP f63 N (aa:=[(57,NG N),(125,NU N)]) (hA:=⟨OU N,QQ N,trivial⟩)
def WH:Ajs:=[Ajq 3 [7],Ajq 26 [0,7,21,22,23]]
def Xr:Lk:=⟨[],[(26,⟨[(0,.c AU),(7,.c (xo 37632)),(21,.i),(22,.i),(23,.c x64)],[(0,.box Bi),(37632,.mp Aw Az)]⟩,[(0,⟨[(7,.c (xo 37632))],[(0,.box Bi),(37632,.mp Aw Az)]⟩)])]⟩
def Xt:=JA 64 [AfT,Js] [Jq] (fun a=>Ro N a.1 a.2) [cZ N,tC N] WH Xr f64 N
def Adt:Ajs:=[(3,⟨[1,5,7],[([7],9,Aw,AiN)],[],[(AiM,AiN)],[]⟩),(42,⟨[1,5,7,8,26,27,28],[([7],9,Aw,AiM)],[],[(42496,AiM)],[]⟩),Ajq 65 [1,5,6]]
def AeL:Lk:=⟨[(65,⟨[(1,.c AQ),(5,.c (.c (.ptr 37376 0))),(6,.c xs)],[(AiX,.box Bi),(37376,.box [xb])]⟩)],[(42,⟨[(1,.c AQ),(5,.c (.c (.ptr 37376 0))),(7,.c (xo AiM)),(8,.c Ba),(26,.i),(27,.i),(28,.c x64)],[(AiX,.box Bi),(Aja,.box [Bd]),(37376,.box [xb]),(AiM,.arr 9 false Aw)]⟩,[(0,⟨[(1,.c AQ),(5,.c (.c (.ptr 37376 0))),(7,.c (xo AiN))],[(AiX,.box Bi),(37376,.box [xb]),(AiN,.arr 9 false Aw)]⟩)])]⟩
def AeM:=JA 35 [Q8] [Js,Jq] (AcX N) [jT N,sV N,NJ N,QC N,ZU N,XU N,MO N,Z8 N,Y5 N,dA N,Lr N,V8 N] Adt AeL f35 N
def VO:=JB 9 [Jq] [Js] (JG N) [lM N,jA N] f9 N
open Go.Proofs Go.Proofs.Tryz
def l9:Ajs:=[Ajq 117 [0,5,9]]
def nO:Lk:=⟨[(117,⟨[(0,.c AU),(5,.c (.c (.ptr 36608 0))),(9,.c (.c (.ptr 35072 0)))],[(0,.box Bi),(35072,.box [x64,xs,xs]),(36608,.box [Bh])]⟩)],[]⟩
def nP:=JA 30 [AfT,Js] [Jq] (fun a=>Zx N a.1 a.2) [bH N,WW N,MN N,XT N,o5 N,NI N,ZQ N,Xt N,MM N] l9 nO f30 N (aa:=[(57,NG N)]) (hA:=⟨OU N,trivial⟩)
open Go.Proofs Go.Proofs.Tryz
def aY:=JA 19 [Js] [Q8,Jq] (KA N) [MN N,nP N,WW N,nX N,MM N,jT N,AeM N] [] Ajt f19 N (aa:=[(28,Qa N)]) (hA:=⟨Rt N,trivial⟩)
open Go.Proofs Go.Proofs.Tryz
def aF:Ajs:=[Ajq 3 [1],Ajq 10 [1,17,18,19]]
def gI:Lk:=⟨[],[(10,⟨[(1,.c AQ),(17,.c (xo 37120)),(18,.i),(19,.c x64)],[(AiX,.box BH),(37120,.arr 9 false Aw)]⟩,[(0,⟨[(1,.c AQ)],[(AiX,.box BH)]⟩)])]⟩
def gJ:=JA 15 [Ah8] [Jq] (NQ N) [aY N] aF gI f15 N
def QZ:Ajs:=[(3,⟨[5],[([5],67,Tq8,AiM)],[],[(AiL,AiM)],[]⟩),(11,⟨[10],[([10],9,Aw,AiY)],[],[(AiN,AiY)],[]⟩),(14,⟨[5,18,19,20],[([5],67,Tq8,AiL)],[],[(42496,AiL)],[]⟩),(19,⟨[5,10,12,13,40,41,42],[([10],9,Aw,AiQ)],[],[(AiO,AiQ)],[]⟩),(50,⟨[5,10,40,41,42],[([10],9,Aw,AiN)],[],[(54016,AiN),(AiQ,AiN)],[]⟩),(66,⟨[5,10,11,12,13,40,41,42,47,48,49],[([10],9,Aw,AiO)],[],[(AiN,AiO)],[]⟩)]
def Sr:Lk:=⟨[],[(14,⟨[(5,.c (xo AiL)),(18,.i),(19,.i),(20,.c x64)],[(0,.box Bj),(101,.arr 34 true Tq6),(102,.mp Tq7 Ar),(AiL,.arr 67 false Tq8)]⟩,[(0,⟨[(5,.c (xo AiM))],[(0,.box Bj),(101,.arr 34 true Tq6),(102,.mp Tq7 Ar),(AiM,.arr 67 false Tq8)]⟩)]),(50,⟨[(5,.c (xo AiM)),(10,.c (xo AiN)),(40,.c (xo AiM)),(41,.i),(42,.c x64)],[(0,.box Bj),(101,.arr 34 true Tq6),(102,.mp Tq7 Ar),(AiM,.arr 67 false Tq8),(AiN,.arr 9 false Aw)]⟩,[(2,⟨[(10,.c (xo AiY))],[(0,.box Bj),(101,.arr 34 true Tq6),(102,.mp Tq7 Ar),(AiY,.arr 9 false Aw)]⟩)]),(66,⟨[(5,.c (xo AiM)),(10,.c (xo AiO)),(11,.i),(12,.c (.c (.ptr 35840 0))),(13,.c xb),(40,.c (xo AiM)),(41,.i),(42,.i),(47,.c (xo AiM)),(48,.i),(49,.c x64)],[(0,.box Bj),(101,.arr 34 true Tq6),(102,.mp Tq7 Ar),(35840,.box Bi),(AiM,.arr 67 false Tq8),(AiO,.arr 9 false Aw)]⟩,[(4,⟨[(5,.c (xo AiM)),(10,.c (xo AiQ)),(12,.c (.c (.ptr 35840 0))),(13,.c xb),(40,.c (xo AiM)),(41,.i),(42,.i)],[(0,.box Bj),(101,.arr 34 true Tq6),(102,.mp Tq7 Ar),(35840,.box Bi),(AiM,.arr 67 false Tq8),(AiQ,.arr 9 false Aw)]⟩)])]⟩
def Oo:=JA 10 [Sq2,AfU] [Ri] (fun a=>JS N a.1 a.2) [NV N,aY N,aG N] QZ Sr f10 N (bb:=[57,63,69,73,74,75])
open Go.Proofs Go.Proofs.Tryz
def SA:Ajs:=[Ajq 3 [0,3,5],Ajq 22 [0,3,5,24,25,26]]
def Tj:Lk:=⟨[],[(22,⟨[(0,.c AU),(3,.c AO),(5,.c x64),(24,.c (xo 38912)),(25,.i),(26,.c x64)],[(0,.box Bj),(101,.arr 34 true Tq6),(102,.mp Tq7 Ar),(AiU,.box BH),(38912,.arr 4 false Az)]⟩,[(0,⟨[(0,.c AU),(3,.c AO),(5,.c x64)],[(0,.box Bj),(101,.arr 34 true Tq6),(102,.mp Tq7 Ar),(AiU,.box BH)]⟩)])]⟩
def OM:=JA 8 [Sq2,Ah8] [Jq] (fun a=>JX N a.1 a.2) [Na N,gJ N] SA Tj f8 N
open Go.Proofs Go.Proofs.Tryz
def yA:=JA 12 [] [JC] (fun _=>ND N) [Wv N,VO N,OM N,Oo N,Ug N,Ue N] [] Ajt f12 N (bb:=[28,31,32,36,37,41,42,48,49,53,54,60,61,66]) (ss:=[(7,7,32,[33,34,35])])
open Go.Proofs Go.Proofs.Tryz
def TT:Ajs:=[(3,⟨[1,5,6,7],[],[],[(38401,AiR),(38402,AiM),(AiL,AiM),(Ajc,AiR)],[]⟩),(11,⟨[1,5,6,7,9],[],[],[(41984,AiO),(AiN,AiO)],[AiO]⟩),(19,⟨[1,6,7],[],[],[(38657,1020496),(38658,AiY),(AiQ,AiY),(Ajj,1020496)],[]⟩),(22,⟨[1,5,6,7,8],[],[],[(38401,Ajc),(38402,AiL),(38501,Ajc),(38502,AiL)],[]⟩),(46,⟨[1,5,6,7,9,10],[],[],[(41984,AiN),(44288,AiN)],[]⟩),(58,⟨[1,5,6,7,9],[],[],[(38657,Ajj),(38658,AiQ),(38757,Ajj),(38758,AiQ),(51456,AiO)],[AiO]⟩)]
def Uw:Lk:=⟨[],[(22,⟨[(1,.i),(5,.c AV),(6,.c AX),(7,.c AY),(8,.c x64)],[(Ajd,.box BI),(Ajf,.box [(xo Ajc),(xo AiL)]),(38656,.box Bz),(38657,.arr 34 true Tq6),(38658,.mp Tq7 Ar),(AiL,.mp Tq7 Ar),(Ajc,.arr 34 true Tq6)]⟩,[(0,⟨[(1,.i),(5,.c AV),(6,.c AX),(7,.c AY)],[(Ajd,.box BI),(Ajf,.box Bq),(38656,.box Bz),(38657,.arr 34 true Tq6),(38658,.mp Tq7 Ar),(AiM,.mp Tq7 Ar),(AiR,.arr 34 true Tq6)]⟩)]),(46,⟨[(1,.i),(5,.c AV),(6,.c AX),(7,.c AY),(9,.c (xo AiN)),(10,.c x64)],[(Ajd,.box BI),(Ajf,.box Bq),(38656,.box Bz),(38657,.arr 34 true Tq6),(38658,.mp Tq7 Ar),(AiM,.mp Tq7 Ar),(AiR,.arr 34 true Tq6),(AiN,.arr 3 false Ar)]⟩,[(2,⟨[(1,.i),(5,.c AV),(6,.c AX),(7,.c AY),(9,.c (xo AiO))],[(Ajd,.box BI),(Ajf,.box Bq),(38656,.box Bz),(38657,.arr 34 true Tq6),(38658,.mp Tq7 Ar),(AiM,.mp Tq7 Ar),(AiR,.arr 34 true Tq6),(AiO,.arr 3 true Ar)]⟩)]),(58,⟨[(1,.i),(5,.c AV),(6,.c AX),(7,.c AY),(9,.c (xo AiO))],[(Ajd,.box BI),(Ajf,.box Bq),(38656,.box [(xo Ajj),(xo AiQ)]),(AiM,.mp Tq7 Ar),(AiR,.arr 34 true Tq6),(AiO,.arr 3 true Ar),(AiQ,.mp Tq7 Ar),(Ajj,.arr 34 true Tq6)]⟩,[(4,⟨[(1,.i),(6,.c AX),(7,.c AY)],[(Ajf,.box Bq),(38656,.box [(xo 1020496),(xo AiY)]),(AiM,.mp Tq7 Ar),(AiR,.arr 34 true Tq6),(AiY,.mp Tq7 Ar),(1020496,.arr 34 true Tq6)]⟩)])]⟩
def Lm:Sig:=.of [Sq0,Jq] [JC] (fun a=>MJ N a.1 a.2)
def S9:Ah4 3 (Lm N):=Aiz (Ais (ksp [AdT N,lN N,Wv N,VO N,OM N,Oo N,AbD N,yA N]) TT [] [] [12] [84,91,92,96,97,99]) Uw f3 N (OG (Rz _))
end
end Go.Proofs.YtpaimpmokhihmaaGreatDoor.Vm
