import Derived.Test.YtpaimpmokhihmaaGreatDoorA19
set_option linter.all false
namespace Go.Proofs.YtpaimpmokhihmaaGreatDoor.Vm
noncomputable section
variable (N:Nat)
open Go.Proofs Go.Proofs.Tryz
def nJ:=JA 269 [Js] [Sq6,Jq] (Zt N) [TK N,PL N] f269 N
def nK:AiL:=[(53,⟨[2,4,5,6],[],[(some Aiz,0,Tq3)],[],[]⟩),AiJ 105 [2,4,5,6]]
def sF:Lk:=⟨[(53,⟨[(2,.c AA),(4,.c AL),(5,.c AP),(6,.c (.c (.ptr 36864 0)))],[(Aiv,.box [(xo Ai2),AB,AB,A7,AB]),(Ai2,.KL 112 false Tq3),(Aiw,.box [(xo Ai4),AB,AB,A7,AB]),(Ai4,.KL 112 false Tq3),(Aiz,.box [Bc,AB,AB,A7,AB]),(36864,.box [Bf])]⟩),(105,⟨[(2,.c AA),(4,.c AL),(5,.c AP),(6,.c (.c (.ptr 36864 0)))],[(Aiv,.box [(xo Ai2),AB,AB,A7,AB]),(Ai2,.KL 112 false Tq3),(Aiw,.box [(xo Ai4),AB,AB,A7,AB]),(Ai4,.KL 112 false Tq3),(Aiz,.box [Bc,xb,xb,x64,AB]),(36864,.box [Bf])]⟩)],[]⟩
def sG:=J9 187 [Js] [AfE,Jq] (aX N) [NI N,TK N,PL N,iO N,dU N,MJ N] nK sF f187 N (aa:=[(28,PW N)]) (hA:=⟨Rk N,trivial⟩)
def Xe:AiL:=[AiJ 3 [],AiJ 18 [9,10,11]]
def XC:Lk:=⟨[],[(18,⟨[(9,.i),(10,.i),(11,.c x64)],[]⟩,[(0,⟨[],[]⟩)])]⟩
def OD:=J9 70 [.cell false (.sl 204 Tq5)] [Jq] (NU N) [Yv N] Xe XC f70 N
def Xj:AiL:=[(45,⟨[0,2,4,5],[],[(some Aiz,0,Tq3)],[],[]⟩),AiJ 73 [0,2,4,5],(105,⟨[0,2,4,5],[],[(some Aiz,3,Aq)],[],[]⟩)]
def XF:Lk:=⟨[(45,⟨[(0,.c AU),(2,.c AA),(4,.c AL),(5,.c AP)],[(0,.box [Bf]),(Aiv,.box Bo),(Ai2,.KL 112 false Tq3),(33284,.KL 91 false Aq),(Aiw,.box Bq),(Ai4,.KL 112 false Tq3),(33796,.KL 91 false Aq),(Aiz,.box [Bc,A7,AB,(xo 34052)]),(34052,.KL 91 false Aq)]⟩),(73,⟨[(0,.c AU),(2,.c AA),(4,.c AL),(5,.c AP)],[(0,.box [Bf]),(Aiv,.box Bo),(Ai2,.KL 112 false Tq3),(33284,.KL 91 false Aq),(Aiw,.box Bq),(Ai4,.KL 112 false Tq3),(33796,.KL 91 false Aq),(Aiz,.box [Bc,x64,AB,(xo 34052)]),(34052,.KL 91 false Aq)]⟩),(105,⟨[(0,.c AU),(2,.c AA),(4,.c AL),(5,.c AP)],[(0,.box [Bf]),(Aiv,.box Bo),(Ai2,.KL 112 false Tq3),(33284,.KL 91 false Aq),(Aiw,.box Bq),(Ai4,.KL 112 false Tq3),(33796,.KL 91 false Aq),(Aiz,.box BB)]⟩)],[]⟩
def XG:=J9 273 [Sq4] [Ahk,Jq] (Sv N) [NI N,TK N,PL N,dU N,MJ N] Xj XF f273 N
def nN:AiL:=[AiJ 17 [0,3,5,6],AiJ 25 [0,3,5,6]]
def sO:Lk:=⟨[(17,⟨[(0,.c AU),(3,.c AO),(5,.c xs),(6,.i)],[(0,.box [xb]),(Ai0,.box [Bc,xb,xb,x64,xb])]⟩),(25,⟨[(0,.c AU),(3,.c AO),(5,.i),(6,.c xs)],[(0,.box [xb]),(Ai0,.box [Bc,xb,xb,x64,xb])]⟩)],[]⟩
def sQ:=J9 146 [.box [(false,.bool)],AfE] [Js] (fun a=>bD N a.1 a.2) [TM N,ML N,Ll N,WV N,iP N,NJ N] nN sO f146 N
def WH:AiL:=[(17,⟨[1,4],[([4],182,Tq2,Air)],[],[(37888,Air)],[]⟩),(29,⟨[1,4],[],[],[(39680,Ais),(42240,Ais)],[]⟩),(41,⟨[1,4],[],[],[(49664,Ait),(Ais,Ait)],[]⟩)]
def X3:Lk:=⟨[(17,⟨[(1,.c AQ),(4,.c (xo Air))],[(Ai3,.box Bg),(Air,.arr 182 false Tq2)]⟩),(29,⟨[(1,.c AQ),(4,.c (xo Ais))],[(Ai3,.box Bg),(Ais,.arr 182 false Tq2)]⟩),(41,⟨[(1,.c AQ),(4,.c (xo Ait))],[(Ai3,.box Bg),(Ait,.arr 182 false Tq2)]⟩)],[]⟩
def X4:=J9 51 [Q4] [.cell false (.sl 182 Tq2),Jq] (RX N) [KT N,SX N,UI N,qU N,ZF N,Ze N] WH X3 f51 N
open Go.Proofs Go.Proofs.Tryz
def nS:=JA 184 [Aik,Aab] [Jq] (fun a=>Zw N a.1 a.2) [Zu N,xC N,nJ N] f184 N
def Wu:AiL:=[(3,⟨[6],[([6],204,Tq5,Ais)],[],[(Air,Ais)],[]⟩),(30,⟨[4,6],[([6],204,Tq5,Air)],[],[(44032,Air)],[]⟩)]
def Xf:Lk:=⟨[],[(30,⟨[(4,.c (.c (.ptr AiA 0))),(6,.c (xo Air))],[(AiA,.box [Bf]),(Air,.arr 204 false Tq5)]⟩,[(0,⟨[(6,.c (xo Ais))],[(Ais,.arr 204 false Tq5)]⟩)])]⟩
def Xg:=J9 188 [Js] [.cell false (.sl 204 Tq5),Jq] (Rf N) [UA N,XG N,OD N] Wu Xf f188 N (aa:=[(28,PW N),(125,NV N)]) (hA:=⟨Rk N,QM N,trivial⟩)
def Aan:AiL:=[AiJ 3 [],AiJ 94 [1,88,89]]
def AbR:Lk:=⟨[],[(94,⟨[(1,.c AQ),(88,.i),(89,.c x64)],[(Ai3,.box Bg)]⟩,[(0,⟨[],[]⟩)])]⟩
def jL:=J9 34 [Q4] [Jq] (aS N) [Oa N,nR N,kT N,OD N,kR N] Aan AbR f34 N (bb:=[40,45,46,50,56,57])
def Wv:AiL:=[(3,⟨[5,6],[([6],9,Au,Aiy)],[],[(Air,Aiy)],[]⟩),(38,⟨[5,6,22,23,24],[([6],9,Au,Air)],[],[(54272,Air)],[]⟩),(57,⟨[5,6,8,9,22,23,24],[([6],9,Au,Ais)],[],[(Air,Ais)],[]⟩),(65,⟨[5,6,8,9,22,23,24],[([6],9,Au,Ait)],[],[(Ais,Ait)],[]⟩),(77,⟨[5,6,9,22,23,24],[([6],9,Au,Aiu)],[],[(Ait,Aiu)],[]⟩)]
def Xh:Lk:=⟨[(57,⟨[(5,.c AZ),(6,.c (xo Ais)),(8,.c AX),(9,.c (xo 39936)),(22,.i),(23,.i),(24,.i)],[(Ai5,.box BB),(38144,.box [xb]),(39936,.arr 9 false Au),(Ais,.arr 9 false Au)]⟩),(65,⟨[(5,.c AZ),(6,.c (xo Ait)),(8,.c AX),(9,.c (xo 39936)),(22,.i),(23,.i),(24,.i)],[(Ai5,.box BB),(38144,.box [xb]),(39936,.arr 9 false Au),(Ait,.arr 9 false Au)]⟩),(77,⟨[(5,.c AZ),(6,.c (xo Aiu)),(9,.c (xo 39936)),(22,.i),(23,.i),(24,.i)],[(38144,.box [xb]),(39936,.arr 9 false Au),(Aiu,.arr 9 false Au)]⟩)],[(38,⟨[(5,.c AZ),(6,.c (xo Air)),(22,.i),(23,.i),(24,.c x64)],[(38144,.box [xb]),(Air,.arr 9 false Au)]⟩,[(0,⟨[(5,.c AZ),(6,.c (xo Aiy))],[(38144,.box [xb]),(Aiy,.arr 9 false Au)]⟩)])]⟩
def Xi:=J9 147 [.cell false (.sl 204 Tq5)] [Js,Jq] (Rh N) [OD N,TM N,ML N,Ll N,WV N,SI N,NJ N,Vy N] Wv Xh f147 N
def Xz:AiL:=[AiJ 3 [1,5,7,9,11],AiJ 42 [1,5,7,9,11,12,46,47,48],AiJ 81 [1,5,7,9,11]]
def Yg:Lk:=⟨[(81,⟨[(1,.c AQ),(5,.i),(7,.i),(9,.i),(11,.c xs)],[(Ai3,.box Bg)]⟩)],[(42,⟨[(1,.c AQ),(5,.i),(7,.i),(9,.i),(11,.c xs),(12,.c (.c (.ptr 35840 0))),(46,.i),(47,.i),(48,.c x64)],[(Ai3,.box Bg),(35840,.box [Ba])]⟩,[(0,⟨[(1,.c AQ),(5,.i),(7,.i),(9,.i),(11,.c xs)],[(Ai3,.box Bg)]⟩)])]⟩
def Yh:=J9 26 [Q4] [Js,Jq] (SB N) [jE N,TV N,TS N,yY N,Qr N,X4 N,qV N,SX N,UG N] Xz Yg f26 N
open Go.Proofs Go.Proofs.Tryz
def aV:AiL:=[AiJ 3 [0,4,6,7],AiJ 66 [0,4,6,7,57,58,59],AiJ 89 [0,4,6,7]]
def iK:Lk:=⟨[(89,⟨[(0,.c AU),(4,.c AL),(6,.c AY),(7,.c AV)],[(0,.box [Bf]),(Aiw,.box Bz),(33797,.KL 91 false Aq),(Ai9,.box BA),(34409,.KL 91 false Aq),(Ai1,.box Bi)]⟩)],[(66,⟨[(0,.c AU),(4,.c AL),(6,.c AY),(7,.c AV),(57,.i),(58,.i),(59,.c x64)],[(0,.box [Bf]),(Aiw,.box Bz),(33797,.KL 91 false Aq),(Ai9,.box BA),(34409,.KL 91 false Aq),(Ai1,.box Bi)]⟩,[(0,⟨[(0,.c AU),(4,.c AL),(6,.c AY),(7,.c AV)],[(0,.box [Bf]),(Aiw,.box Bz),(33797,.KL 91 false Aq),(Ai9,.box BA),(34409,.KL 91 false Aq),(Ai1,.box Bi)]⟩)])]⟩
def iL:=J9 126 [Sq4,Sq6] [AfD,Jq] (fun a=>WO N a.1 a.2) [sD N,aZ N,nT N,NI N,bU N,nS N,MJ N] aV iK f126 N
def sS:=JA 127 [AfF,Aab] [Jq] (fun a=>bF N a.1 a.2) [aW N,Zu N,sG N,Xg N] f127 N
def XJ:AiL:=[(17,⟨[0,3,5],[([5],182,Tq2,Air)],[],[(37888,Air)],[]⟩),(29,⟨[0,3,5],[],[],[(39936,Ais),(42752,Ais)],[]⟩),(37,⟨[0,3,5],[],[],[(45312,Ait),(Ais,Ait)],[]⟩)]
def Yy:Lk:=⟨[(17,⟨[(0,.c AU),(3,.c AO),(5,.c (xo Air))],[(0,.box [xb]),(Ai0,.box Bg),(Air,.arr 182 false Tq2)]⟩),(29,⟨[(0,.c AU),(3,.c AO),(5,.c (xo Ais))],[(0,.box [xb]),(Ai0,.box Bg),(Ais,.arr 182 false Tq2)]⟩),(37,⟨[(0,.c AU),(3,.c AO),(5,.c (xo Ait))],[(0,.box [xb]),(Ai0,.box Bg),(Ait,.arr 182 false Tq2)]⟩)],[]⟩
def Yz:=J9 81 [.box [(false,.bool)],Q4] [.cell false (.sl 182 Tq2)] (fun a=>TJ N a.1 a.2) [Ll N,NJ N,Q9 N,sQ N,Xi N,ML N] XJ Yy f81 N
def iR:=JA 17 [Q4] [Js] (WT N) [Yh N,Ab3 N] f17 N
open Go.Proofs Go.Proofs.Tryz
def Yx:AiL:=[(3,⟨[8],[([8],121,Tq4,Ais)],[],[(Air,Ais)],[]⟩),(30,⟨[3,6,8],[([8],121,Tq4,Air)],[],[(44544,Air)],[]⟩)]
def ZK:Lk:=⟨[],[(30,⟨[(3,.c AO),(6,.c (.c (.ptr 36352 0))),(8,.c (xo Air))],[(Ai0,.box [Ba]),(36352,.box [Bf]),(Air,.arr 121 false Tq4)]⟩,[(0,⟨[(8,.c (xo Ais))],[(Ais,.arr 121 false Tq4)]⟩)])]⟩
def ZL:=J9 63 [Js,Sq6] [.cell false (.sl 121 Tq4),Jq] (fun a=>U9 N a.1 a.2) [UA N,iL N] Yx ZK f63 N (aa:=[(57,NF N),(125,NV N)]) (hA:=⟨OT N,QM N,trivial⟩)
def Wx:AiL:=[AiJ 3 [7],AiJ 26 [0,7,21,22,23]]
def Xk:Lk:=⟨[],[(26,⟨[(0,.c AU),(7,.c (xo 37632)),(21,.i),(22,.i),(23,.c x64)],[(0,.box Bg),(37632,.mp Au Az)]⟩,[(0,⟨[(7,.c (xo 37632))],[(0,.box Bg),(37632,.mp Au Az)]⟩)])]⟩
def Xl:=J9 64 [AfF,Js] [Jq] (fun a=>Ri N a.1 a.2) [bU N,sS N] Wx Xk f64 N
def Adi:AiL:=[(3,⟨[1,5,7],[([7],9,Au,Ait)],[],[(Ais,Ait)],[]⟩),(42,⟨[1,5,7,8,26,27,28],[([7],9,Au,Ais)],[],[(42496,Ais)],[]⟩),AiJ 65 [1,5,6]]
def Ae9:Lk:=⟨[(65,⟨[(1,.c AQ),(5,.c (.c (.ptr 37376 0))),(6,.c xs)],[(Ai3,.box Bg),(37376,.box [xb])]⟩)],[(42,⟨[(1,.c AQ),(5,.c (.c (.ptr 37376 0))),(7,.c (xo Ais)),(8,.c AX),(26,.i),(27,.i),(28,.c x64)],[(Ai3,.box Bg),(Ai5,.box [Ba]),(37376,.box [xb]),(Ais,.arr 9 false Au)]⟩,[(0,⟨[(1,.c AQ),(5,.c (.c (.ptr 37376 0))),(7,.c (xo Ait))],[(Ai3,.box Bg),(37376,.box [xb]),(Ait,.arr 9 false Au)]⟩)])]⟩
def AeA:=J9 35 [Q4] [Js,Jq] (AcM N) [jL N,sK N,NJ N,Q9 N,ZO N,XM N,ML N,Zy N,Yz N,bV N,Ll N,Vy N] Adi Ae9 f35 N
def VH:=JA 9 [Jq] [Js] (JU N) [lG N,iR N] f9 N
open Go.Proofs Go.Proofs.Tryz
def kU:AiL:=[AiJ 117 [0,5,9]]
def nH:Lk:=⟨[(117,⟨[(0,.c AU),(5,.c (.c (.ptr 36608 0))),(9,.c (.c (.ptr 35072 0)))],[(0,.box Bg),(35072,.box [x64,xs,xs]),(36608,.box [Bf])]⟩)],[]⟩
def nI:=J9 30 [AfF,Js] [Jq] (fun a=>Zr N a.1 a.2) [aZ N,WN N,MK N,XL N,nT N,NI N,ZL N,Xl N,MJ N] kU nH f30 N (aa:=[(57,NF N)]) (hA:=⟨OT N,trivial⟩)
open Go.Proofs Go.Proofs.Tryz
def aT:=J9 19 [Js] [Q4,Jq] (N9 N) [MK N,nI N,WN N,nP N,MJ N,jL N,AeA N] [] AiM f19 N (aa:=[(28,PW N)]) (hA:=⟨Rk N,trivial⟩)
open Go.Proofs Go.Proofs.Tryz
def ZY:AiL:=[AiJ 3 [1],AiJ 10 [1,17,18,19]]
def fP:Lk:=⟨[],[(10,⟨[(1,.c AQ),(17,.c (xo 37120)),(18,.i),(19,.c x64)],[(Ai3,.box BC),(37120,.arr 9 false Au)]⟩,[(0,⟨[(1,.c AQ)],[(Ai3,.box BC)]⟩)])]⟩
def fQ:=J9 15 [Ahn] [Jq] (NQ N) [aT N] ZY fP f15 N
def QV:AiL:=[(3,⟨[5],[([5],67,Tq8,Ais)],[],[(Air,Ais)],[]⟩),(11,⟨[10],[([10],9,Au,Ai8)],[],[(Ait,Ai8)],[]⟩),(14,⟨[5,18,19,20],[([5],67,Tq8,Air)],[],[(42496,Air)],[]⟩),(19,⟨[5,10,12,13,40,41,42],[([10],9,Au,Aiy)],[],[(Aiu,Aiy)],[]⟩),(50,⟨[5,10,40,41,42],[([10],9,Au,Ait)],[],[(54016,Ait),(Aiy,Ait)],[]⟩),(66,⟨[5,10,11,12,13,40,41,42,47,48,49],[([10],9,Au,Aiu)],[],[(Ait,Aiu)],[]⟩)]
def RZ:Lk:=⟨[],[(14,⟨[(5,.c (xo Air)),(18,.i),(19,.i),(20,.c x64)],[(0,.box Bh),(101,.arr 34 true Tq6),(102,.mp Tq7 Aw),(Air,.arr 67 false Tq8)]⟩,[(0,⟨[(5,.c (xo Ais))],[(0,.box Bh),(101,.arr 34 true Tq6),(102,.mp Tq7 Aw),(Ais,.arr 67 false Tq8)]⟩)]),(50,⟨[(5,.c (xo Ais)),(10,.c (xo Ait)),(40,.c (xo Ais)),(41,.i),(42,.c x64)],[(0,.box Bh),(101,.arr 34 true Tq6),(102,.mp Tq7 Aw),(Ais,.arr 67 false Tq8),(Ait,.arr 9 false Au)]⟩,[(2,⟨[(10,.c (xo Ai8))],[(0,.box Bh),(101,.arr 34 true Tq6),(102,.mp Tq7 Aw),(Ai8,.arr 9 false Au)]⟩)]),(66,⟨[(5,.c (xo Ais)),(10,.c (xo Aiu)),(11,.i),(12,.c (.c (.ptr 35840 0))),(13,.c xb),(40,.c (xo Ais)),(41,.i),(42,.i),(47,.c (xo Ais)),(48,.i),(49,.c x64)],[(0,.box Bh),(101,.arr 34 true Tq6),(102,.mp Tq7 Aw),(35840,.box Bg),(Ais,.arr 67 false Tq8),(Aiu,.arr 9 false Au)]⟩,[(4,⟨[(5,.c (xo Ais)),(10,.c (xo Aiy)),(12,.c (.c (.ptr 35840 0))),(13,.c xb),(40,.c (xo Ais)),(41,.i),(42,.i)],[(0,.box Bh),(101,.arr 34 true Tq6),(102,.mp Tq7 Aw),(35840,.box Bg),(Ais,.arr 67 false Tq8),(Aiy,.arr 9 false Au)]⟩)])]⟩
def Si:=J9 10 [Sq2,AfG] [Uf] (fun a=>MV N a.1 a.2) [NW N,aT N,ZZ N] QV RZ f10 N (bb:=[57,63,69,73,74,75])
open Go.Proofs Go.Proofs.Tryz
def Su:AiL:=[AiJ 3 [0,3,5],AiJ 22 [0,3,5,24,25,26]]
def SY:Lk:=⟨[],[(22,⟨[(0,.c AU),(3,.c AO),(5,.c x64),(24,.c (xo 38912)),(25,.i),(26,.c x64)],[(0,.box Bh),(101,.arr 34 true Tq6),(102,.mp Tq7 Aw),(Ai0,.box BC),(38912,.arr 4 false Az)]⟩,[(0,⟨[(0,.c AU),(3,.c AO),(5,.c x64)],[(0,.box Bh),(101,.arr 34 true Tq6),(102,.mp Tq7 Aw),(Ai0,.box BC)]⟩)])]⟩
def OJ:=J9 8 [Sq2,Ahn] [Jq] (fun a=>Kz N a.1 a.2) [MW N,fQ N] Su SY f8 N
open Go.Proofs Go.Proofs.Tryz
def xY:=J9 12 [] [JC] (fun _=>Px N) [Wi N,VH N,OJ N,Si N,OQ N,TZ N] [] AiM f12 N (bb:=[28,31,32,36,37,41,42,48,49,53,54,60,61,66]) (ss:=[(7,7,32,[33,34,35])])
open Go.Proofs Go.Proofs.Tryz
def SL:AiL:=[(3,⟨[1,5,6],[],[],[(36609,Aix),(36610,Ais),(Air,Ais),(Ai7,Aix)],[]⟩),(18,⟨[1,5,6,7],[],[],[(36609,Ai7),(36610,Air),(36709,Ai7),(36710,Air)],[]⟩)]
def TN:Lk:=⟨[],[(18,⟨[(1,.i),(5,.i),(6,.c (.c (.ptr 36608 0))),(7,.c x64)],[(36608,.box [(xo Ai7),(xo Air)]),(Air,.mp Tq7 Aw),(Ai7,.arr 34 true Tq6)]⟩,[(0,⟨[(1,.i),(5,.i),(6,.c (.c (.ptr 36608 0)))],[(36608,.box [(xo Aix),(xo Ais)]),(Ais,.mp Tq7 Aw),(Aix,.arr 34 true Tq6)]⟩)])]⟩
def Ld:Sig:=.of [Jq,Jq] [JC] (fun a=>LY N a.1 a.2)
def Ru:Ahj 4 (Ld N):=AhU (AhT (ksp [AdH N,lH N,Wi N,VH N,OJ N,OQ N,xY N]) SL) TN f4 N (OE (Rt _))
end
end Go.Proofs.YtpaimpmokhihmaaGreatDoor.Vm
