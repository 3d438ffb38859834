import Derived.Test.YtbaomhegdndpnaaGreatDoorA24
set_option linter.all false
namespace Go.Proofs.YtbaomhegdndpnaaGreatDoor.Vm
noncomputable section
open Go.Proofs
def IU (N:Nat):Sig:=.of [Sq0,Sq0] [AL] (fun a=>F7 N a.1 a.2)
theorem Jf (N:Nat):Ad 91 (IU N):=Ah (Ag [(153,TS N)] []) ⟨[],[]⟩ Tryz.f91 N (Ac ⟨Zn N,trivial⟩)
def Iz (N:Nat):Alt:=.of [.cell false .str,.cell false (.int .i64)] [Sq9,.cell false (.int .i64)] [.cell false .ptr,.cell false (.int .i64)] (fun a=>GI N a.1 a.2)
theorem WQ (N:Nat):Spec Tryz.prog 98 (Iz N).1/\Spec Tryz.prog 98 (Iz N).2.1:=Hy (C:=ctx Tryz.prog [(159,EP N)] [] [] [] [23]) (L:=⟨[],[]⟩) (fn:=Tryz.f98) (N:=N) (Ac ⟨Em N,trivial⟩) (by kernel_rfl) (by kernel_rfl) (fun a=>by kernel_rfl)
def Su:List (Nat×Nrm):=[(3,⟨[],[],[],[],[]⟩),(11,⟨[0,13,14,15],[],[],[],[]⟩),(26,⟨[0,13,14,15],[],[],[],[]⟩),(62,⟨[0,4,13,14,15,41,42,43],[],[],[],[]⟩)]
def TT:Lk:=⟨[],[(26,⟨[(0,.i),(13,.i),(14,.i),(15,.c x64)],[]⟩,[(0,⟨[],[]⟩)]),(62,⟨[(0,.i),(4,.c (.c (.ptr 33792 0))),(13,.i),(14,.i),(15,.i),(41,.i),(42,.i),(43,.c x64)],[(33792,.box [xs,x64,xs])]⟩,[(2,⟨[(0,.i),(13,.i),(14,.i),(15,.i)],[]⟩)])]⟩
def Ju (N:Nat):Sig:=.of [.cell false (.sl 73 Tq0)] [Af] (fun a=>Le N a)
theorem PX (N:Nat):Ad 86 (Ju N):=Ah (Ag [(148,SL N),(149,YO N)] Su) TT Tryz.f86 N (Ac ⟨Ui N,kJ N,trivial⟩)
def MQ (N:Nat):Sig:=.of [Af,Aj,AL] [AL] (fun a=>Jh N a.1 a.2.1 a.2.2)
theorem TY (N:Nat):Ad 151 (MQ N):=Ah (Ag [(211,Rt N),(212,SC N),(213,ZP N),(214,Ub N),(215,Yb N),(216,TZ N)] [] [] [] [] [11,14,15,18,21,22,26,29,30,33,36,37,41,44,45,48,51,52]) ⟨[],[]⟩ Tryz.f151 N (Ac ⟨Ya N,Ua N,mP N,Zr N,iI N,Zq N,trivial⟩)
def qW:List (Nat×Nrm):=[(3,⟨[5],[([5],9,(.str .nil),1004096)],[],[(1000000,1004096)],[]⟩),(26,⟨[5,17,18,19],[([5],9,(.str .nil),1000000)],[],[(41216,1000000)],[]⟩)]
def vW:Lk:=⟨[],[(26,⟨[(5,.c (xo 1000000)),(17,.i),(18,.i),(19,.c x64)],[(1000000,.arr 9 false (.str .nil))]⟩,[(0,⟨[(5,.c (xo 1004096))],[(1004096,.arr 9 false (.str .nil))]⟩)])]⟩
def Qb (N:Nat):Sig:=.of [.cell false (.sl 183 Tq4)] [Aj,Af] (fun a=>UZ N a)
theorem Rn (N:Nat):Ad 82 (Qb N):=Ah (Ag [(141,Sz N),(142,Rq N),(136,EG N)] qW) vW Tryz.f82 N (Ac ⟨TU N,XM N,DK N,trivial⟩)
def Ko (N:Nat):Sig:=.of [Aj,Af,Af,Aj,Aj] [Aj] (fun a=>Ja N a.1 a.2.1 a.2.2.1 a.2.2.2.1 a.2.2.2.2)
theorem MZ (N:Nat):Ad 118 (Ko N):=Ah (Ag [(178,ZV N),(161,merkle_b4_S N),(159,EP N)] []) ⟨[],[]⟩ Tryz.f118 N (Ac ⟨nD N,LH N,Em N,trivial⟩)
def Aab:List (Nat×Nrm):=[(3,⟨[5],[],[],[],[]⟩),(10,⟨[0,1,2,4,5,13],[],[],[],[]⟩)]
def AbI:Lk:=⟨[],[(10,⟨[(0,.i),(1,.i),(2,.i),(4,.i),(5,.c xs),(13,.c x64)],[]⟩,[(0,⟨[(5,.c xs)],[]⟩)])]⟩
def OX (N:Nat):Sig:=.of [Aj,Af,Af,Af,Af,Aj] [Aj] (fun a=>LJ N a.1 a.2.1 a.2.2.1 a.2.2.2.1 a.2.2.2.2.1 a.2.2.2.2.2)
theorem NQ (N:Nat):Ad 176 (OX N):=Ah (Ag [(247,Vz N),(248,dA N),(159,EP N)] Aab) AbI Tryz.f176 N (Ac ⟨SN N,ZY N,Em N,trivial⟩)
end
noncomputable section
def JJ (N:Nat):Sig:=.of [Ip] [Af] (fun a=>Nz N a)
theorem ML (N:Nat):Ad 59 (JJ N):=Ah (Ag [(105,FW N),(112,Hm N)] []) ⟨[],[]⟩ Tryz.f59 N (Ac ⟨Gw N,MS N,trivial⟩)
def QQ:List (Nat×Nrm):=[(3,⟨[6],[([6],73,Tq0,1004096)],[],[(1000000,1004096)],[]⟩),(42,⟨[6,26,27,28],[([6],73,Tq0,1000000)],[],[(43776,1000000)],[]⟩)]
def Sv:Lk:=⟨[],[(42,⟨[(6,.c (xo 1000000)),(26,.i),(27,.i),(28,.c x64)],[(1000000,.arr 73 false Tq0)]⟩,[(0,⟨[(6,.c (xo 1004096))],[(1004096,.arr 73 false Tq0)]⟩)])]⟩
def IE (N:Nat):Sig:=.of [Gv] [.cell false (.sl 73 Tq0),Af] (fun a=>JP N a)
theorem OM (N:Nat):Ad 165 (IE N):=Ah (Ag [(163,EF N),(234,RS N),(235,Ik N)] QQ) Sv Tryz.f165 N (Ac ⟨DJ N,YP N,NH N,trivial⟩)
def lG:List (Nat×Nrm):=[(33,⟨[1,6],[],[],[],[]⟩),(69,⟨[1,6,7],[],[],[],[]⟩)]
def qN:Lk:=⟨[(33,⟨[(1,.i),(6,.c x64)],[]⟩),(69,⟨[(1,.i),(6,.i),(7,.c x64)],[]⟩)],[]⟩
def N8 (N:Nat):Sig:=.of [Af,Aj] [Af,Af] (fun a=>Sr N a.1 a.2)
theorem PM (N:Nat):Ad 166 (N8 N):=Ah (Ag [(236,NG N),(238,XE N),(237,TQ N)] lG) qN Tryz.f166 N (Ac ⟨PR N,fO N,Zl N,trivial⟩)
def EW (N:Nat):Alt:=.of [Ip] [Ip,.cell false (.int .i64)] [.cell false .ptr,.cell false (.int .i64)] (fun a=>Ir N a)
theorem Jt (N:Nat):Spec Tryz.prog 168 (EW N).1/\Spec Tryz.prog 168 (EW N).2.1:=Hy (C:=ctx Tryz.prog [(57,CV N)] [] [(104,EL N)]) (L:=⟨[],[]⟩) (fn:=Tryz.f168) (N:=N) (Ac ⟨CQ N,trivial⟩ ⟨FV N,trivial⟩) (by kernel_rfl) (by kernel_rfl) (fun a=>by kernel_rfl)
def N7 (N:Nat):Sig:=.of [Aj,Af] [Af,Af] (fun a=>LX N a.1 a.2)
theorem PK (N:Nat):Ad 242 (N7 N):=Ah (Ag [(103,DF N),(164,LM N)] []) ⟨[],[]⟩ Tryz.f242 N (Ac ⟨FO N,Oy N,trivial⟩)
def Q7 (N:Nat):Sig:=.of [Aj] [AL] (fun a=>LP N a)
theorem WT (N:Nat):Ad 222 (Q7 N):=Ah (Ag [(223,Q8 N),(278,IM N)] [] [] [] [] [5,8,9,13,17,18,22,23,27,28]) ⟨[],[]⟩ Tryz.f222 N (Ac ⟨RN N,Ig N,trivial⟩)
def Zz:List (Nat×Nrm):=[(3,⟨[],[],[],[],[]⟩),(18,⟨[0,1,12,13],[],[],[],[]⟩)]
def dH:Lk:=⟨[],[(18,⟨[(0,.i),(1,.i),(12,.i),(13,.c x64)],[]⟩,[(0,⟨[],[]⟩)])]⟩
def QB (N:Nat):Sig:=.of [.cell false (.sl 73 Tq0),.cell false (.sl 73 Tq0)] [AL] (fun a=>Ut N a.1 a.2)
theorem WV (N:Nat):Ad 158 (QB N):=Ah (Ag [(228,aG N)] Zz) dH Tryz.f158 N (Ac ⟨nX N,trivial⟩)
end
noncomputable section
def Qr (N:Nat):Sig:=.of [Aj,Af,Sq8] [Aj] (fun a=>KD N a.1 a.2.1 a.2.2)
theorem Rz (N:Nat):Ad 177 (Qr N):=Ah (Ag [(247,Vz N),(232,V3 N),(159,EP N)] []) ⟨[],[]⟩ Tryz.f177 N (Ac ⟨SN N,Wu N,Em N,trivial⟩)
def Qs (N:Nat):Sig:=.of [Aj,Af,Af] [Aj] (fun a=>KE N a.1 a.2.1 a.2.2)
theorem RD (N:Nat):Ad 231 (Qs N):=Ah (Ag [(247,Vz N),(248,dA N),(159,EP N)] []) ⟨[],[]⟩ Tryz.f231 N (Ac ⟨SN N,ZY N,Em N,trivial⟩)
def merkle_digest_S (N:Nat):Sig:=.of [Gv,Af,Aj] [Aj] (fun a=>merkle_digest N a.1 a.2.1 a.2.2)
theorem MX (N:Nat):Ad 117 (merkle_digest_S N):=Ah (Ag [(161,merkle_b4_S N),(159,EP N)] []) ⟨[],[]⟩ Tryz.f117 N (Ac ⟨LH N,Em N,trivial⟩)
def UO (N:Nat):Sig:=.of [Ip] [Af,Af] (fun a=>UN N a)
theorem VZ (N:Nat):Ad 108 (UO N):=Ah (Ag [(105,FW N),(166,N8 N)] []) ⟨[],[]⟩ Tryz.f108 N (Ac ⟨Gw N,PM N,trivial⟩)
def qV:List (Nat×Nrm):=[(3,⟨[7],[([7],183,Tq4,1004096)],[],[(1000000,1004096)],[]⟩),(46,⟨[7,33,34,35],[([7],183,Tq4,1000000)],[],[(45568,1000000)],[]⟩)]
def vV:Lk:=⟨[],[(46,⟨[(7,.c (xo 1000000)),(33,.i),(34,.i),(35,.c x64)],[(1000000,.arr 183 false Tq4)]⟩,[(0,⟨[(7,.c (xo 1004096))],[(1004096,.arr 183 false Tq4)]⟩)])]⟩
def Qa (N:Nat):Sig:=.of [Aj] [.cell false (.sl 183 Tq4),Af] (fun a=>UY N a)
theorem Rl (N:Nat):Ad 170 (Qa N):=Ah (Ag [(162,J9 N),(163,EF N),(240,Ro N),(141,Sz N)] qV) vV Tryz.f170 N (Ac ⟨Hw N,DJ N,XL N,TU N,trivial⟩)
def VV (N:Nat):Sig:=.of [Aj] [Af,Af] (fun a=>ZF N a)
theorem aX (N:Nat):Ad 286 (VV N):=Ah (Ag [(162,J9 N),(166,N8 N)] []) ⟨[],[]⟩ Tryz.f286 N (Ac ⟨Hw N,PM N,trivial⟩)
def MM (N:Nat):Sig:=.of [Aj] [Aj,Af] (fun a=>PH N a)
theorem TF (N:Nat):Ad 241 (MM N):=Ah (Ag [(57,CV N),(61,CU N)] [] [(56,H7 N)]) ⟨[],[]⟩ Tryz.f241 N (Ac ⟨CQ N,CP N,trivial⟩ ⟨JM N,trivial⟩)
def Ur:List (Nat×Nrm):=[(53,⟨[2,5],[],[],[],[]⟩)]
def VC:Lk:=⟨[(53,⟨[(2,.c (.c (.ptr 33280 0))),(5,.c xb)],[(33280,.box [x64,xs,(xl (.sl 73 Tq0 .nil))])]⟩)],[]⟩
def KQ (N:Nat):Sig:=.of [Aa9,AL] [Af] (fun a=>Nj N a.1 a.2)
theorem QR (N:Nat):Ad 156 (KQ N):=Ah (Ag [(222,Q7 N),(223,Q8 N),(224,Y5 N),(225,RP N),(226,Wy N),(227,RJ N),(40,E5 N)] Ur [] [] [] [11,15,16,19,23,24,28,32,33,36,40,41,45,49,50,53,57,58]) VC Tryz.f156 N (Ac ⟨WT N,RN N,jZ N,Y7 N,dG N,Y4 N,ED N,trivial⟩)
end
noncomputable section
def vI:List (Nat×Nrm):=[(3,⟨[],[],[],[],[]⟩),(10,⟨[2,4,9,10,11],[],[],[],[]⟩)]
def zD:Lk:=⟨[],[(10,⟨[(2,.i),(4,.c (.c (.ptr 33792 0))),(9,.i),(10,.i),(11,.c x64)],[(33792,.box [(xl (.sl 73 Tq0 .nil))])]⟩,[(0,⟨[],[]⟩)])]⟩
def Sm (N:Nat):Sig:=.of [.cell false (.sl 35 Tq1),Sq0,Af] [Af] (fun a=>MO N a.1 a.2.1 a.2.2)
theorem TL (N:Nat):Ad 49 (Sm N):=Ah (Ag [(91,IU N)] vI) zD Tryz.f49 N (Ac ⟨Jf N,trivial⟩)
def Td (N:Nat):Alt:=.of [.cell false .str,.cell false (.int .i64),.cell false (.int .i64)] [aP,.cell false (.int .i64)] [.cell false .ptr,.cell false (.int .i64)] (fun a=>YG N a.1 a.2.1 a.2.2)
theorem sS (N:Nat):Spec Tryz.prog 52 (Td N).1/\Spec Tryz.prog 52 (Td N).2.1:=Hy (C:=ctx Tryz.prog [(99,merkle_Tree_Leaves_S N)] [] [(98,Iz N)]) (L:=⟨[],[]⟩) (fn:=Tryz.f52) (N:=N) (Ac ⟨EY N,trivial⟩ ⟨WQ N,trivial⟩) (by kernel_rfl) (by kernel_rfl) (fun a=>by kernel_rfl)
def lN:List (Nat×Nrm):=[(3,⟨[],[],[],[],[]⟩),(18,⟨[11,12,13],[],[],[],[]⟩)]
def qR:Lk:=⟨[],[(18,⟨[(11,.i),(12,.i),(13,.c x64)],[]⟩,[(0,⟨[],[]⟩)])]⟩
def Eu (N:Nat):Sig:=.of [Sq0] [Af] (fun a=>EJ N a)
theorem DZ (N:Nat):Ad 35 (Eu N):=Ah (Ag [(86,Ju N)] lN) qR Tryz.f35 N (Ac ⟨PX N,trivial⟩)
def eU (N:Nat):Sig:=.of [Aj,Aj] [Aj,Af] (fun a=>UG N a.1 a.2)
theorem qL (N:Nat):Ad 33 (eU N):=Ah (Ag [(85,ZC N)] []) ⟨[],[]⟩ Tryz.f33 N (Ac ⟨kX N,trivial⟩)
def rQ:List (Nat×Nrm):=[(3,⟨[0,2,9],[],[],[],[]⟩),(26,⟨[0,1,2,9,10],[([9],9,(.str .nil),1000000)],[],[(40960,1000000)],[]⟩)]
def xP:Lk:=⟨[],[(26,⟨[(0,.i),(1,.i),(2,.i),(9,.c (xo 1000000)),(10,.c x64)],[(1000000,.arr 9 false (.str .nil))]⟩,[(0,⟨[(0,.i),(2,.i),(9,.c (xo 1000000))],[(1000000,.arr 9 false (.str .nil))]⟩)])]⟩
def Yu (N:Nat):Sig:=.of [Aj,Aj,Af] [Aj,Af] (fun a=>OW N a.1 a.2.1 a.2.2)
theorem jH (N:Nat):Ad 179 (Yu N):=Ah (Ag [(230,KC N),(231,Qs N),(176,OX N),(177,Qr N)] rQ) xP Tryz.f179 N (Ac ⟨Nc N,RD N,NQ N,Rz N,trivial⟩)
def zZ:List (Nat×Nrm):=[(3,⟨[13],[],[],[],[]⟩),(38,⟨[0,1,2,11,13,14],[([13],9,(.str .nil),1000000)],[],[(45056,1000000)],[]⟩)]
def AbG:Lk:=⟨[],[(38,⟨[(0,.i),(1,.i),(2,.i),(11,.i),(13,.c (xo 1000000)),(14,.c x64)],[(1000000,.arr 9 false (.str .nil))]⟩,[(0,⟨[(13,.c (xo 1000000))],[(1000000,.arr 9 false (.str .nil))]⟩)])]⟩
def ots_Sign_S (N:Nat):Sig:=.of [Aj,Aj,Af,Aj] [Aj,Af] (fun a=>ots_Sign N a.1 a.2.1 a.2.2.1 a.2.2.2)
theorem rV (N:Nat):Ad 160 (ots_Sign_S N):=Ah (Ag [(230,KC N),(175,Qp N),(231,Qs N),(176,OX N),(232,V3 N)] zZ) AbG Tryz.f160 N (Ac ⟨Nc N,Ry N,RD N,NQ N,Wu N,trivial⟩)
def nJ:List (Nat×Nrm):=[(3,⟨[0,1,13],[],[],[],[]⟩),(46,⟨[0,1,3,11,13,14],[([13],9,(.str .nil),1000000)],[],[(46336,1000000)],[]⟩)]
def rU:Lk:=⟨[],[(46,⟨[(0,.i),(1,.i),(3,.i),(11,.i),(13,.c (xo 1000000)),(14,.c x64)],[(1000000,.arr 9 false (.str .nil))]⟩,[(0,⟨[(0,.i),(1,.i),(13,.c (xo 1000000))],[(1000000,.arr 9 false (.str .nil))]⟩)])]⟩
def Ws (N:Nat):Sig:=.of [Aj,Af,Aj,Aj] [Aj,Af] (fun a=>Me N a.1 a.2.1 a.2.2.1 a.2.2.2)
theorem cZ (N:Nat):Ad 116 (Ws N):=Ah (Ag [(174,KA N),(175,Qp N),(176,OX N),(177,Qr N)] nJ) rU Tryz.f116 N (Ac ⟨Nb N,Ry N,NQ N,Rz N,trivial⟩)
def WY:List (Nat×Nrm):=[(3,⟨[],[],[],[],[]⟩),(18,⟨[9,10,11],[],[],[],[]⟩)]
def YB:Lk:=⟨[],[(18,⟨[(9,.i),(10,.i),(11,.c x64)],[]⟩,[(0,⟨[],[]⟩)])]⟩
def Hq (N:Nat):Sig:=.of [.cell false (.sl 85 Tq2)] [Af] (fun a=>Jn N a)
theorem J6 (N:Nat):Ad 94 (Hq N):=Ah (Ag [(156,KQ N)] WY) YB Tryz.f94 N (Ac ⟨QR N,trivial⟩)
end
noncomputable section
def eQ (N:Nat):Sig:=.of [Sq2,Sq0,Af] [Sq3,AL] (fun a=>P9 N a.1 a.2.1 a.2.2)
theorem qK (N:Nat):Ad 17 (eQ N):=Ah (Ag [(49,Sm N),(50,Lu N)] []) ⟨[],[]⟩ Tryz.f17 N (Ac ⟨TL N,Oh N,trivial⟩)
def QD (N:Nat):Alt:=.of [.cell false .str,.cell false (.int .i64)] [aP,.cell false (.int .i64)] [.cell false .ptr,.cell false (.int .i64)] (fun a=>KW N a.1 a.2)
theorem o5 (N:Nat):Spec Tryz.prog 22 (QD N).1/\Spec Tryz.prog 22 (QD N).2.1:=Hy (C:=ctx Tryz.prog [] [] [(52,Td N)]) (L:=⟨[],[]⟩) (fn:=Tryz.f22) (N:=N) (Ac trivial ⟨sS N,trivial⟩) (by kernel_rfl) (by kernel_rfl) (fun a=>by kernel_rfl)
def Gn (N:Nat):Sig:=.of [Aa9,AL] [Af] (fun a=>IG N a.1 a.2)
theorem FZ (N:Nat):Ad 87 (Gn N):=Ah (Ag [(150,gZ N),(35,Eu N),(151,MQ N)] []) ⟨[],[]⟩ Tryz.f87 N (Ac ⟨qX N,DZ N,TY N,trivial⟩)
def PD (N:Nat):Sig:=.of [Sq2,Af] [Af] (fun a=>FM N a.1 a.2)
theorem WH (N:Nat):Ad 39 (PD N):=Ah (Ag [(36,UM N),(89,X5 N),(35,Eu N),(90,TJ N),(91,IU N),(49,Sm N)] []) ⟨[],[]⟩ Tryz.f39 N (Ac ⟨VX N,fF N,DZ N,Zh N,Jf N,TL N,trivial⟩)
def fV:List (Nat×Nrm):=[(3,⟨[5],[([5],9,(.str .nil),1012288)],[],[(1000000,1012288)],[]⟩),(11,⟨[5,8,21,22,23],[([8],9,(.str .nil),1008192),([5],9,(.str .nil),1008208)],[],[(1004096,1008192),(1004112,1008208)],[]⟩),(26,⟨[5,21,22,23],[([5],9,(.str .nil),1000000)],[],[(47872,1000000)],[]⟩),(42,⟨[5,8,21,22,23,27,28,29],[([8],9,(.str .nil),1004096),([5],9,(.str .nil),1004112)],[],[(44032,1004096),(1000000,1004112)],[]⟩)]
def lS:Lk:=⟨[],[(26,⟨[(5,.c (xo 1000000)),(21,.i),(22,.i),(23,.c x64)],[(1000000,.arr 9 false (.str .nil))]⟩,[(0,⟨[(5,.c (xo 1012288))],[(1012288,.arr 9 false (.str .nil))]⟩)]),(42,⟨[(5,.c (xo 1004112)),(8,.c (xo 1004096)),(21,.i),(22,.i),(23,.i),(27,.i),(28,.i),(29,.c x64)],[(1004096,.arr 9 false (.str .nil)),(1004112,.arr 9 false (.str .nil))]⟩,[(2,⟨[(5,.c (xo 1008208)),(8,.c (xo 1008192)),(21,.i),(22,.i),(23,.i)],[(1008192,.arr 9 false (.str .nil)),(1008208,.arr 9 false (.str .nil))]⟩)])]⟩
def L9 (N:Nat):Sig:=.of [Sq0] [Aj,Af] (fun a=>PV N a)
theorem Oq (N:Nat):Ad 79 (L9 N):=Ah (Ag [(35,Eu N),(137,Il N),(138,Tq N),(136,EG N)] fV) lS Tryz.f79 N (Ac ⟨DZ N,NI N,oC N,DK N,trivial⟩)
def WR:List (Nat×Nrm):=[(3,⟨[0,2],[([2],9,(.str .nil),1004096)],[],[(1000000,1004096)],[]⟩),(11,⟨[],[],[],[(44032,1020480),(1008192,1020480)],[]⟩),(14,⟨[0,2,3],[([2],9,(.str .nil),1000000)],[],[(43264,1000000)],[]⟩),(19,⟨[0,6,7],[([7],9,(.str .nil),1016384)],[],[(44032,1016400),(1012288,1016384),(1012304,1016400)],[]⟩),(38,⟨[0,2,6],[],[],[(44032,1008192),(56576,1008192),(1016384,1004096)],[]⟩),(54,⟨[0,2,6,7,8],[([7],9,(.str .nil),1012288)],[],[(44032,1012304),(54016,1012288),(1008192,1012304)],[]⟩)]
def Yo:Lk:=⟨[],[(14,⟨[(0,.c (.c (.ptr 0 0))),(2,.c (xo 1000000)),(3,.c x64)],[(0,.box [(.h (.ln (.sl 9 (.str .nil) .nil))),xs,xs,x64]),(1000000,.arr 9 false (.str .nil))]⟩,[(0,⟨[(0,.c (.c (.ptr 0 0))),(2,.c (xo 1004096))],[(0,.box [(.h (.ln (.sl 9 (.str .nil) .nil))),xs,xs,x64]),(1004096,.arr 9 false (.str .nil))]⟩)]),(38,⟨[(0,.c (.c (.ptr 0 0))),(2,.c (xo 1004096)),(6,.c x64)],[(0,.box [(xo 1008192),xs,xs,x64]),(1004096,.arr 9 true (.str .nil)),(1008192,.arr 67 false (.sl 9 (.str .nil) .nil))]⟩,[(2,⟨[],[(0,.box [(xo 1020480),xs,xs,x64]),(1020480,.arr 67 false (.sl 9 (.str .nil) .nil))]⟩)]),(54,⟨[(0,.c (.c (.ptr 0 0))),(2,.c (xo 1004096)),(6,.i),(7,.c (xo 1012288)),(8,.c x64)],[(0,.box [(xo 1012304),xs,xs,x64]),(1004096,.arr 9 true (.str .nil)),(1012288,.arr 9 false (.str .nil)),(1012304,.arr 67 false (.sl 9 (.str .nil) .nil))]⟩,[(4,⟨[(0,.c (.c (.ptr 0 0))),(6,.i),(7,.c (xo 1016384))],[(0,.box [(xo 1016400),xs,xs,x64]),(1016384,.arr 9 false (.str .nil)),(1016400,.arr 67 false (.sl 9 (.str .nil) .nil))]⟩)])]⟩
def MW (N:Nat):Sig:=.of [Sq9] [] (fun a=>Dt N a)
theorem Ug (N:Nat):Ad 120 (MW N):=Ah (Ag [(179,Yu N),(118,Ko N)] WR) Yo Tryz.f120 N (Ac ⟨jH N,MZ N,trivial⟩)
def fU:List (Nat×Nrm):=[(3,⟨[2,4,8],[],[],[(34817,1004096),(1000000,1004096)],[]⟩),(50,⟨[2,4,8,37,38,39],[],[],[(34817,1000000),(47104,1000000)],[]⟩)]
def lQ:Lk:=⟨[],[(50,⟨[(2,.c (.c (.ptr 33280 0))),(4,.c (.c (.ptr 33792 0))),(8,.c (.c (.ptr 34816 0))),(37,.i),(38,.i),(39,.c x64)],[(33280,.box [(xo 33281)]),(33281,.BO 74 false (.sl 73 Tq0 .nil)),(33792,.box [(xo 33793)]),(33793,.BO 74 false (.sl 73 Tq0 .nil)),(34816,.box [(xo 1000000)]),(1000000,.arr 74 false (.sl 73 Tq0 .nil))]⟩,[(0,⟨[(2,.c (.c (.ptr 33280 0))),(4,.c (.c (.ptr 33792 0))),(8,.c (.c (.ptr 34816 0)))],[(33280,.box [(xo 33281)]),(33281,.BO 74 false (.sl 73 Tq0 .nil)),(33792,.box [(xo 33793)]),(33793,.BO 74 false (.sl 73 Tq0 .nil)),(34816,.box [(xo 1004096)]),(1004096,.arr 74 false (.sl 73 Tq0 .nil))]⟩)])]⟩
def L8 (N:Nat):Sig:=.of [Aj] [Sq0,Af] (fun a=>PU N a)
theorem Oo (N:Nat):Ad 107 (L8 N):=Ah (Ag [(162,J9 N),(163,EF N),(165,IE N),(35,Eu N)] fU) lQ Tryz.f107 N (Ac ⟨Hw N,DJ N,OM N,DZ N,trivial⟩)
def bW:List (Nat×Nrm):=[(3,⟨[3,10],[],[],[],[]⟩),(58,⟨[3,10,12,13,14],[],[],[],[]⟩),(61,⟨[3,10,12,13,14],[],[],[],[]⟩)]
def jC:Lk:=⟨[(61,⟨[(3,.c (.c (.ptr 33536 0))),(10,.c xs),(12,.i),(13,.i),(14,.i)],[(33536,.box [x64,xs,xs])]⟩)],[(58,⟨[(3,.c (.c (.ptr 33536 0))),(10,.c xs),(12,.i),(13,.c x64),(14,.c x64)],[(33536,.box [x64,xs,xs])]⟩,[(0,⟨[(3,.c (.c (.ptr 33536 0))),(10,.c xs)],[(33536,.box [x64,xs,xs])]⟩)])]⟩
def Rw (N:Nat):Sig:=.of [Gv,Aj,Aj] [Af] (fun a=>IZ N a.1 a.2.1 a.2.2)
theorem Yp (N:Nat):Ad 65 (Rw N):=Ah (Ag [(114,Ue N),(115,Wn N),(117,merkle_digest_S N),(116,Ws N),(118,Ko N)] bW) jC Tryz.f65 N (Ac ⟨Zu N,bV N,MX N,cZ N,MZ N,trivial⟩)
end
noncomputable section
def WU:List (Nat×Nrm):=[(3,⟨[],[],[],[],[]⟩),(18,⟨[2,3,15,16],[],[],[],[]⟩)]
def Y8:Lk:=⟨[],[(18,⟨[(2,.c (.c (.ptr 33280 0))),(3,.c (.c (.ptr 33536 0))),(15,.i),(16,.c x64)],[(33280,.box [(xl (.sl 73 Tq0 .nil))]),(33536,.box [(xl (.sl 73 Tq0 .nil))])]⟩,[(0,⟨[],[]⟩)])]⟩
def Nk (N:Nat):Sig:=.of [Sq0,Sq0] [AL] (fun a=>Jm N a.1 a.2)
theorem Us (N:Nat):Ad 97 (Nk N):=Ah (Ag [(158,QB N)] WU) Y8 Tryz.f97 N (Ac ⟨WV N,trivial⟩)
end
noncomputable section
def O6 (N:Nat):Sig:=.of [Sq0,Sq0] [AL] (fun a=>Es N a.1 a.2)
theorem VD (N:Nat):Ad 51 (O6 N):=Ah (Ag [(97,Nk N)] []) ⟨[],[]⟩ Tryz.f51 N (Ac ⟨Us N,trivial⟩)
end
noncomputable section
def Np (N:Nat):Sig:=.of [Sq2] [Af] (fun a=>Du N a)
theorem Uw (N:Nat):Ad 41 (Np N):=Ah (Ag [(93,O8 N),(94,Hq N)] []) ⟨[],[]⟩ Tryz.f41 N (Ac ⟨VG N,J6 N,trivial⟩)
def VF:List (Nat×Nrm):=[(3,⟨[],[],[],[],[]⟩),(18,⟨[10,11,12],[],[],[],[]⟩)]
def WW:Lk:=⟨[],[(18,⟨[(10,.i),(11,.i),(12,.c x64)],[]⟩,[(0,⟨[],[]⟩)])]⟩
def Lm (N:Nat):Sig:=.of [.cell false (.sl 134 Tq3)] [Af] (fun a=>DC N a)
theorem SY (N:Nat):Ad 42 (Lm N):=Ah (Ag [(94,Hq N),(40,E5 N)] VF [] [] [] [20,24,25,29,35,36]) WW Tryz.f42 N (Ac ⟨J6 N,ED N,trivial⟩)
def WX:List (Nat×Nrm):=[(3,⟨[],[],[],[],[]⟩),(66,⟨[1,2,5,7],[],[],[],[]⟩)]
def YA:Lk:=⟨[],[(66,⟨[(1,.i),(2,.c (.c (.ptr 33280 0))),(5,.c (.c (.ptr 34048 0))),(7,.c x64)],[(33280,.box [xs,xs,(xl (.sl 73 Tq0 .nil)),x64,x64,x64,x64,xs,xb,(xl Tq2),xb,xb,x64,xb,(xl Tq3),(xl Tq1),xs]),(34048,.box [x64,x64,x64,x64,(xl (.sl 73 Tq0 .nil))])]⟩,[(0,⟨[],[]⟩)])]⟩
def Nl (N:Nat):Sig:=.of [Sq2,Af] [Af] (fun a=>EU N a.1 a.2)
theorem Uu (N:Nat):Ad 43 (Nl N):=Ah (Ag [(95,Ux N),(40,E5 N),(51,O6 N)] WX [] [] [] [24,28,29,33,34,38]) YA Tryz.f43 N (Ac ⟨Z5 N,ED N,VD N,trivial⟩)
end
noncomputable section
def Ze:List (Nat×Nrm):=[(7,⟨[],[],[],[],[]⟩),(21,⟨[3,34],[],[],[],[]⟩),(46,⟨[66,67,68],[],[],[],[]⟩)]
def aV:Lk:=⟨[(21,⟨[(3,.c (.c (.ptr 33536 0))),(34,.c xb)],[(33536,.box [(xl Tq2),xb,xb,x64,xb])]⟩)],[(46,⟨[(66,.i),(67,.i),(68,.c x64)],[]⟩,[(1,⟨[],[]⟩)])]⟩
def PE (N:Nat):Sig:=.of [Sq2] [Af] (fun a=>DW N a)
theorem WI (N:Nat):Ad 37 (PE N):=Ah (Ag [(87,Gn N)] Ze [] [] [] [14,18,19,23,24,28,29,33,44,46,49,52,53,54]) aV Tryz.f37 N (Ac ⟨FZ N,trivial⟩)
def TB:List (Nat×Nrm):=[(3,⟨[],[],[],[],[]⟩),(10,⟨[6,7,8],[],[],[],[]⟩)]
def UD:Lk:=⟨[],[(10,⟨[(6,.i),(7,.i),(8,.c x64)],[]⟩,[(0,⟨[],[]⟩)])]⟩
def JF (N:Nat):Sig:=.of [.cell false (.sl 85 Tq2)] [Af] (fun a=>MI N a)
theorem QL (N:Nat):Ad 152 (JF N):=Ah (Ag [(87,Gn N)] TB) UD Tryz.f152 N (Ac ⟨FZ N,trivial⟩)
def Ib (N:Nat):Sig:=.of [Aa9,AL] [Aj,Af] (fun a=>JS N a.1 a.2)
theorem Iw (N:Nat):Ad 134 (Ib N):=Ah (Ag [(87,Gn N),(136,EG N),(79,L9 N)] []) ⟨[],[]⟩ Tryz.f134 N (Ac ⟨FZ N,DK N,Oq N,trivial⟩)
def merkle_Tree_Key_S (N:Nat):Sig:=.of [Sq9] [Gv] (fun a=>merkle_Tree_Key N a)
theorem JZ (N:Nat):Ad 67 (merkle_Tree_Key_S N):=Ah (Ag [(119,merkle_Tree_valid_S N),(120,MW N),(121,Ll N)] []) ⟨[],[]⟩ Tryz.f67 N (Ac ⟨FB N,Ug N,SK N,trivial⟩)
def gY:List (Nat×Nrm):=[(29,⟨[1,2,4,6,11,13],[],[],[],[]⟩),(53,⟨[1,4,6],[],[(some 34304,2,(.sl 73 Tq0 .nil))],[],[]⟩)]
def mJ:Lk:=⟨[(29,⟨[(1,.i),(2,.c (.c (.ptr 33280 0))),(4,.c (.c (.ptr 33792 0))),(6,.c (.c (.ptr 34304 0))),(11,.i),(13,.c xb)],[(33280,.box [x64,xs,xs]),(33792,.box [(.c (.int .i64 0)),(.c (.str ([]:Bs))),(xo 33795)]),(33795,.BO 74 false (.sl 73 Tq0 .nil)),(34304,.box [(.c (.int .i64 0)),(.c (.str ([]:Bs))),(xo 34307)]),(34307,.BO 74 false (.sl 73 Tq0 .nil))]⟩),(53,⟨[(1,.i),(4,.c (.c (.ptr 33792 0))),(6,.c (.c (.ptr 34304 0)))],[(33792,.box [(.c (.int .i64 0)),(.c (.str ([]:Bs))),(xo 33795)]),(33795,.BO 74 false (.sl 73 Tq0 .nil)),(34304,.box [x64,xs,(xl (.sl 73 Tq0 .nil))])]⟩)],[]⟩
def TW (N:Nat):Sig:=.of [Gv,AL] [Aa9,Af] (fun a=>XT N a.1 a.2)
theorem Zo (N:Nat):Ad 314 (TW N):=Ah (Ag [(107,L8 N),(87,Gn N)] gY) mJ Tryz.f314 N (Ac ⟨Oo N,FZ N,trivial⟩)
def Xw (N:Nat):Sig:=.of [Sq2,Gv] [Af] (fun a=>JI N a.1 a.2)
theorem eX (N:Nat):Ad 27 (Xw N):=Ah (Ag [(65,Rw N)] []) ⟨[],[]⟩ Tryz.f27 N (Ac ⟨Yp N,trivial⟩)
def Y9:List (Nat×Nrm):=[(3,⟨[],[],[],[],[]⟩),(94,⟨[1,104,105],[],[],[],[]⟩)]
def Z4:Lk:=⟨[],[(94,⟨[(1,.c (.c (.ptr 33024 0))),(104,.i),(105,.c x64)],[(33024,.box [xs,xs,(xl (.sl 73 Tq0 .nil)),x64,x64,x64,x64,xs,xb,(xl Tq2),xb,xb,x64,xb,(xl Tq3),(xl Tq1),xs])]⟩,[(0,⟨[],[]⟩)])]⟩
def O7 (N:Nat):Sig:=.of [Sq2] [Af] (fun a=>Fv N a)
theorem VE (N:Nat):Ad 11 (O7 N):=Ah (Ag [(40,E5 N),(41,Np N),(42,Lm N),(43,Nl N)] Y9 [] [] [] [22,26,27,31,32,36,37,43,47,51,52,56,57,61,62,66,72,73]) Z4 Tryz.f11 N (Ac ⟨ED N,Uw N,SY N,Uu N,trivial⟩)
end
noncomputable section
def TC:List (Nat×Nrm):=[(13,⟨[1,4],[],[],[],[]⟩)]
def UE:Lk:=⟨[(13,⟨[(1,.c (.c (.ptr 33024 0))),(4,.c xb)],[(33024,.box [(xl Tq2),x64,xb,(xl (.sl 73 Tq0 .nil))])]⟩)],[]⟩
def JG (N:Nat):Sig:=.of [Afn] [Af] (fun a=>MJ N a)
theorem QM (N:Nat):Ad 88 (JG N):=Ah (Ag [(152,JF N),(35,Eu N)] TC) UE Tryz.f88 N (Ac ⟨QL N,DZ N,trivial⟩)
def fD:List (Nat×Nrm):=[(17,⟨[0,4,5,7],[([7],183,Tq4,1000000)],[],[(38400,1000000)],[]⟩),(25,⟨[0,4,5,7],[],[],[(41984,1004096),(1000000,1004096)],[]⟩),(37,⟨[0,4,7],[],[],[(47360,1008192),(1004096,1008192)],[]⟩),(49,⟨[0,4,9],[],[],[],[]⟩)]
def lD:Lk:=⟨[(17,⟨[(0,.c (.c (.ptr 0 0))),(4,.c (.c (.ptr 33792 0))),(5,.c (.c (.ptr 34048 0))),(7,.c (xo 1000000))],[(0,.box [xb]),(33792,.box [x64,x64,x64,x64,(xl (.sl 73 Tq0 .nil))]),(34048,.box [(xl (.sl 73 Tq0 .nil))]),(1000000,.arr 183 false Tq4)]⟩),(25,⟨[(0,.c (.c (.ptr 0 0))),(4,.c (.c (.ptr 33792 0))),(5,.c (.c (.ptr 34048 0))),(7,.c (xo 1004096))],[(0,.box [xb]),(33792,.box [x64,x64,x64,x64,(xl (.sl 73 Tq0 .nil))]),(34048,.box [(xl (.sl 73 Tq0 .nil))]),(1004096,.arr 183 false Tq4)]⟩),(37,⟨[(0,.c (.c (.ptr 0 0))),(4,.c (.c (.ptr 33792 0))),(7,.c (xo 1008192))],[(0,.box [xb]),(33792,.box [x64,x64,x64,x64,(xl (.sl 73 Tq0 .nil))]),(1008192,.arr 183 false Tq4)]⟩),(49,⟨[(0,.c (.c (.ptr 0 0))),(4,.c (.c (.ptr 33792 0))),(9,.c xs)],[(0,.box [xb]),(33792,.box [x64,x64,x64,x64,(xl (.sl 73 Tq0 .nil))])]⟩)],[]⟩
def TM (N:Nat):Sig:=.of [.box [(false,.bool)],Sq3,Sq0] [Aj] (fun a=>X3 N a.1 a.2.1 a.2.2)
theorem Zi (N:Nat):Ad 74 (TM N):=Ah (Ag [(133,I7 N),(81,BL N),(80,N9 N),(78,CB N),(91,IU N),(134,Ib N),(75,Dp N),(82,Qb N),(76,FX N)] fD) lD Tryz.f74 N (Ac ⟨KL N,BF N,PN N,Cj N,Jf N,Iw N,Df N,Rn N,Gy N,trivial⟩)
def WM:List (Nat×Nrm):=[(3,⟨[5],[],[],[],[]⟩),(26,⟨[5,16,17,18],[],[],[],[]⟩)]
def XV:Lk:=⟨[],[(26,⟨[(5,.c xs),(16,.i),(17,.i),(18,.c x64)],[]⟩,[(0,⟨[(5,.c xs)],[]⟩)])]⟩
def Ha (N:Nat):Sig:=.of [.cell false (.sl 85 Tq2)] [Aj,Af] (fun a=>Jg N a)
theorem Jz (N:Nat):Ad 201 (Ha N):=Ah (Ag [(266,NJ N),(134,Ib N)] WM) XV Tryz.f201 N (Ac ⟨Qc N,Iw N,trivial⟩)
def merkle_Tree_Sign_ns:List (Nat×Nrm):=[(3,⟨[10],[],[],[],[]⟩),(42,⟨[0,10,11,12],[],[],[],[]⟩)]
def merkle_Tree_Sign_L:Lk:=⟨[],[(42,⟨[(0,.c (.c (.ptr 0 0))),(10,.c xs),(11,.c x64),(12,.c x64)],[(0,.box [(.h (.ln (.sl 9 (.str .nil) .nil))),xs,xs,x64])]⟩,[(0,⟨[(10,.c xs)],[(0,.box [(.h (.ln (.sl 9 (.str .nil) .nil))),xs,xs,x64])]⟩)])]⟩
def merkle_Tree_Sign_S (N:Nat):Sig:=.of [Sq9,Af,Aj] [Aj,Af] (fun a=>merkle_Tree_Sign N a.1 a.2.1 a.2.2)
theorem Uf (N:Nat):Ad 102 (merkle_Tree_Sign_S N):=Ah (Ag [(119,merkle_Tree_valid_S N),(99,merkle_Tree_Leaves_S N),(67,merkle_Tree_Key_S N),(117,merkle_digest_S N),(160,ots_Sign_S N),(161,merkle_b4_S N)] merkle_Tree_Sign_ns [] [] [] [] [] [(67,[(0,1),(0,2),(0,3)])]) merkle_Tree_Sign_L Tryz.f102 N (Ac ⟨FB N,EY N,JZ N,MX N,rV N,LH N,trivial⟩)
def WL:List (Nat×Nrm):=[(3,⟨[7],[([7],85,Tq2,1004096)],[],[(1000000,1004096)],[]⟩),(38,⟨[7,26,27,28],[([7],85,Tq2,1000000)],[],[(43776,1000000)],[]⟩)]
def XU:Lk:=⟨[],[(38,⟨[(7,.c (xo 1000000)),(26,.i),(27,.i),(28,.c x64)],[(1000000,.arr 85 false Tq2)]⟩,[(0,⟨[(7,.c (xo 1004096))],[(1004096,.arr 85 false Tq2)]⟩)])]⟩
def Fq (N:Nat):Sig:=.of [Aj] [.cell false (.sl 85 Tq2),Af] (fun a=>EO N a)
theorem FQ (N:Nat):Ad 289 (Fq N):=Ah (Ag [(163,EF N),(266,NJ N),(314,TW N)] WL) XU Tryz.f289 N (Ac ⟨DJ N,Qc N,Zo N,trivial⟩)
def Lp (N:Nat):Sig:=.of [aP] [Gv] (fun a=>E8 N a)
theorem Tf (N:Nat):Ad 28 (Lp N):=Ah (Ag [(66,EE N),(67,merkle_Tree_Key_S N)] [] [] [] [] [] [] [(67,[(0,1),(0,2),(0,3)])]) ⟨[],[]⟩ Tryz.f28 N (Ac ⟨EZ N,JZ N,trivial⟩)
end
noncomputable section
def RV:List (Nat×Nrm):=[(3,⟨[],[],[],[],[]⟩),(18,⟨[9,10,11],[],[],[],[]⟩)]
def TA:Lk:=⟨[],[(18,⟨[(9,.i),(10,.i),(11,.c x64)],[]⟩,[(0,⟨[],[]⟩)])]⟩
def Ej (N:Nat):Sig:=.of [.cell false (.sl 134 Tq3)] [Af] (fun a=>BU N a)
theorem EN (N:Nat):Ad 38 (Ej N):=Ah (Ag [(88,JG N)] RV) TA Tryz.f38 N (Ac ⟨QM N,trivial⟩)
def fE:List (Nat×Nrm):=[(17,⟨[0,3,5,6],[],[],[],[]⟩),(25,⟨[0,3,5,6],[],[],[],[]⟩)]
def lF:Lk:=⟨[(17,⟨[(0,.c (.c (.ptr 0 0))),(3,.c (.c (.ptr 33536 0))),(5,.c xs),(6,.i)],[(0,.box [xb]),(33536,.box [(xl Tq2),xb,xb,x64,xb])]⟩),(25,⟨[(0,.c (.c (.ptr 0 0))),(3,.c (.c (.ptr 33536 0))),(5,.i),(6,.c xs)],[(0,.box [xb]),(33536,.box [(xl Tq2),xb,xb,x64,xb])]⟩)],[]⟩
def TN (N:Nat):Sig:=.of [.box [(false,.bool)],Ad0] [Aj] (fun a=>X4 N a.1 a.2)
theorem Zj (N:Nat):Ad 143 (TN N):=Ah (Ag [(201,Ha N),(78,CB N),(81,BL N),(202,KI N),(203,Om N),(75,Dp N)] fE) lF Tryz.f143 N (Ac ⟨Jz N,Cj N,BF N,Nh N,UT N,Df N,trivial⟩)
def KY (N:Nat):Sig:=.of [aP,Aj] [Aj,Af] (fun a=>Ef N a.1 a.2)
theorem QU (N:Nat):Ad 55 (KY N):=Ah (Ag [(66,EE N),(101,KX N),(102,merkle_Tree_Sign_S N)] []) ⟨[],[]⟩ Tryz.f55 N (Ac ⟨EZ N,QT N,Uf N,trivial⟩)
def Rf (N:Nat):Sig:=.of [Aj] [Sq0,Af] (fun a=>VU N a)
theorem Xz (N:Nat):Ad 287 (Rf N):=Ah (Ag [(103,DF N),(289,Fq N)] []) ⟨[],[]⟩ Tryz.f287 N (Ac ⟨FO N,FQ N,trivial⟩)
def fC:List (Nat×Nrm):=[(53,⟨[2,4,5,6],[],[(some 34048,0,Tq2)],[],[]⟩),(105,⟨[2,4,5,6],[],[],[],[]⟩)]
def lC:Lk:=⟨[(53,⟨[(2,.c (.c (.ptr 33280 0))),(4,.c (.c (.ptr 33792 0))),(5,.c (.c (.ptr 34048 0))),(6,.c (.c (.ptr 36864 0)))],[(33280,.box [(xo 33281),(.c (.bool false)),(.c (.bool false)),(.c (.int .i64 0)),(.c (.bool false))]),(33281,.BO 85 false Tq2),(33792,.box [(xo 33793),(.c (.bool false)),(.c (.bool false)),(.c (.int .i64 0)),(.c (.bool false))]),(33793,.BO 85 false Tq2),(34048,.box [(xl Tq2),(.c (.bool false)),(.c (.bool false)),(.c (.int .i64 0)),(.c (.bool false))]),(36864,.box [(xl Tq5)])]⟩),(105,⟨[(2,.c (.c (.ptr 33280 0))),(4,.c (.c (.ptr 33792 0))),(5,.c (.c (.ptr 34048 0))),(6,.c (.c (.ptr 36864 0)))],[(33280,.box [(xo 33281),(.c (.bool false)),(.c (.bool false)),(.c (.int .i64 0)),(.c (.bool false))]),(33281,.BO 85 false Tq2),(33792,.box [(xo 33793),(.c (.bool false)),(.c (.bool false)),(.c (.int .i64 0)),(.c (.bool false))]),(33793,.BO 85 false Tq2),(34048,.box [(xl Tq2),xb,xb,x64,(.c (.bool false))]),(36864,.box [(xl Tq5)])]⟩)],[]⟩
def TG (N:Nat):Sig:=.of [Aj] [Ad0,Af] (fun a=>X0 N a)
theorem Zg (N:Nat):Ad 243 (TG N):=Ah (Ag [(109,DY N),(103,DF N),(289,Fq N),(290,Ol N),(291,Qx N),(61,CU N)] fC [(56,H7 N)]) lC Tryz.f243 N (Ac ⟨DT N,FO N,FQ N,UR N,RF N,CP N,trivial⟩ ⟨JM N,trivial⟩)
def RZ:List (Nat×Nrm):=[(45,⟨[0,2,4,5],[],[(some 34048,0,Tq2)],[],[]⟩),(73,⟨[0,2,4,5],[],[],[],[]⟩),(105,⟨[0,2,4,5],[],[(some 34048,3,(.sl 73 Tq0 .nil))],[],[]⟩)]
def TD:Lk:=⟨[(45,⟨[(0,.c (.c (.ptr 0 0))),(2,.c (.c (.ptr 33280 0))),(4,.c (.c (.ptr 33792 0))),(5,.c (.c (.ptr 34048 0)))],[(0,.box [(xl Tq5)]),(33280,.box [(xo 33281),(.c (.int .i64 0)),(.c (.bool false)),(xo 33284)]),(33281,.BO 85 false Tq2),(33284,.BO 74 false (.sl 73 Tq0 .nil)),(33792,.box [(xo 33793),(.c (.int .i64 0)),(.c (.bool false)),(xo 33796)]),(33793,.BO 85 false Tq2),(33796,.BO 74 false (.sl 73 Tq0 .nil)),(34048,.box [(xl Tq2),(.c (.int .i64 0)),(.c (.bool false)),(xo 34052)]),(34052,.BO 74 false (.sl 73 Tq0 .nil))]⟩),(73,⟨[(0,.c (.c (.ptr 0 0))),(2,.c (.c (.ptr 33280 0))),(4,.c (.c (.ptr 33792 0))),(5,.c (.c (.ptr 34048 0)))],[(0,.box [(xl Tq5)]),(33280,.box [(xo 33281),(.c (.int .i64 0)),(.c (.bool false)),(xo 33284)]),(33281,.BO 85 false Tq2),(33284,.BO 74 false (.sl 73 Tq0 .nil)),(33792,.box [(xo 33793),(.c (.int .i64 0)),(.c (.bool false)),(xo 33796)]),(33793,.BO 85 false Tq2),(33796,.BO 74 false (.sl 73 Tq0 .nil)),(34048,.box [(xl Tq2),x64,(.c (.bool false)),(xo 34052)]),(34052,.BO 74 false (.sl 73 Tq0 .nil))]⟩),(105,⟨[(0,.c (.c (.ptr 0 0))),(2,.c (.c (.ptr 33280 0))),(4,.c (.c (.ptr 33792 0))),(5,.c (.c (.ptr 34048 0)))],[(0,.box [(xl Tq5)]),(33280,.box [(xo 33281),(.c (.int .i64 0)),(.c (.bool false)),(xo 33284)]),(33281,.BO 85 false Tq2),(33284,.BO 74 false (.sl 73 Tq0 .nil)),(33792,.box [(xo 33793),(.c (.int .i64 0)),(.c (.bool false)),(xo 33796)]),(33793,.BO 85 false Tq2),(33796,.BO 74 false (.sl 73 Tq0 .nil)),(34048,.box [(xl Tq2),x64,xb,(xl (.sl 73 Tq0 .nil))])]⟩)],[]⟩
def Jq (N:Nat):Sig:=.of [Ip] [Afn,Af] (fun a=>Lc N a)
theorem P8 (N:Nat):Ad 292 (Jq N):=Ah (Ag [(109,DY N),(103,DF N),(289,Fq N),(291,Qx N),(61,CU N)] RZ) TD Tryz.f292 N (Ac ⟨DT N,FO N,FQ N,RF N,CP N,trivial⟩)
end
noncomputable section
def vH:List (Nat×Nrm):=[(3,⟨[],[],[],[],[]⟩),(94,⟨[1,88,89],[],[],[],[]⟩)]
def zC:Lk:=⟨[],[(94,⟨[(1,.c (.c (.ptr 33024 0))),(88,.i),(89,.c x64)],[(33024,.box [xs,xs,(xl (.sl 73 Tq0 .nil)),x64,x64,x64,x64,xs,xb,(xl Tq2),xb,xb,x64,xb,(xl Tq3),(xl Tq1),xs])]⟩,[(0,⟨[],[]⟩)])]⟩
def LW (N:Nat):Sig:=.of [Sq2] [Af] (fun a=>GV N a)
theorem Lt (N:Nat):Ad 10 (LW N):=Ah (Ag [(35,Eu N),(36,UM N),(37,PE N),(38,Ej N),(39,PD N)] vH [] [] [] [40,45,46,50,56,57]) zC Tryz.f10 N (Ac ⟨DZ N,VX N,WI N,EN N,WH N,trivial⟩)
def QK:List (Nat×Nrm):=[(3,⟨[5,6],[([6],9,(.str .nil),1016384)],[],[(1000000,1016384)],[]⟩),(38,⟨[5,6,22,23,24],[([6],9,(.str .nil),1000000)],[],[(54272,1000000)],[]⟩),(57,⟨[5,6,8,9,22,23,24],[([6],9,(.str .nil),1004096)],[],[(1000000,1004096)],[]⟩),(65,⟨[5,6,8,9,22,23,24],[([6],9,(.str .nil),1008192)],[],[(1004096,1008192)],[]⟩),(77,⟨[5,6,9,22,23,24],[([6],9,(.str .nil),1012288)],[],[(1008192,1012288)],[]⟩)]
def RY:Lk:=⟨[(57,⟨[(5,.c (.c (.ptr 38144 0))),(6,.c (xo 1004096)),(8,.c (.c (.ptr 34816 0))),(9,.c (xo 39936)),(22,.i),(23,.i),(24,.i)],[(34816,.box [(xl Tq2),x64,xb,(xl (.sl 73 Tq0 .nil))]),(38144,.box [xb]),(39936,.arr 9 false (.str .nil)),(1004096,.arr 9 false (.str .nil))]⟩),(65,⟨[(5,.c (.c (.ptr 38144 0))),(6,.c (xo 1008192)),(8,.c (.c (.ptr 34816 0))),(9,.c (xo 39936)),(22,.i),(23,.i),(24,.i)],[(34816,.box [(xl Tq2),x64,xb,(xl (.sl 73 Tq0 .nil))]),(38144,.box [xb]),(39936,.arr 9 false (.str .nil)),(1008192,.arr 9 false (.str .nil))]⟩),(77,⟨[(5,.c (.c (.ptr 38144 0))),(6,.c (xo 1012288)),(9,.c (xo 39936)),(22,.i),(23,.i),(24,.i)],[(38144,.box [xb]),(39936,.arr 9 false (.str .nil)),(1012288,.arr 9 false (.str .nil))]⟩)],[(38,⟨[(5,.c (.c (.ptr 38144 0))),(6,.c (xo 1000000)),(22,.i),(23,.i),(24,.c x64)],[(38144,.box [xb]),(1000000,.arr 9 false (.str .nil))]⟩,[(0,⟨[(5,.c (.c (.ptr 38144 0))),(6,.c (xo 1016384))],[(38144,.box [xb]),(1016384,.arr 9 false (.str .nil))]⟩)])]⟩
def I9 (N:Nat):Sig:=.of [.cell false (.sl 134 Tq3)] [Aj,Af] (fun a=>JE N a)
theorem OJ (N:Nat):Ad 144 (I9 N):=Ah (Ag [(38,Ej N),(201,Ha N),(78,CB N),(81,BL N),(202,KI N),(134,Ib N),(75,Dp N),(84,Je N)] QK) RY Tryz.f144 N (Ac ⟨EN N,Jz N,Cj N,BF N,Nh N,Iw N,Df N,Gx N,trivial⟩)
def Rj (N:Nat):Sig:=.of [Agl,AaA] [Af] (fun a=>VY N a.1 a.2)
theorem X7 (N:Nat):Ad 239 (Rj N):=Ah (Ag [(242,N7 N),(286,VV N),(287,Rf N)] []) ⟨[],[]⟩ Tryz.f239 N (Ac ⟨PK N,aX N,Xz N,trivial⟩)
def QJ:List (Nat×Nrm):=[(3,⟨[6],[([6],134,Tq3,1004096)],[],[(1000000,1004096)],[]⟩),(30,⟨[4,6],[([6],134,Tq3,1000000)],[],[(44032,1000000)],[]⟩)]
def RX:Lk:=⟨[],[(30,⟨[(4,.c (.c (.ptr 36096 0))),(6,.c (xo 1000000))],[(36096,.box [(xl Tq5)]),(1000000,.arr 134 false Tq3)]⟩,[(0,⟨[(6,.c (xo 1004096))],[(1004096,.arr 134 false Tq3)]⟩)])]⟩
def I8 (N:Nat):Sig:=.of [Aj] [.cell false (.sl 134 Tq3),Af] (fun a=>JD N a)
theorem OI (N:Nat):Ad 244 (I8 N):=Ah (Ag [(167,Iu N),(292,Jq N),(38,Ej N)] QJ [(56,H7 N),(168,EW N)]) RX Tryz.f244 N (Ac ⟨JO N,P8 N,EN N,trivial⟩ ⟨JM N,Jt N,trivial⟩)
end
noncomputable section
def TK:List (Nat×Nrm):=[(17,⟨[0,3,5],[([5],183,Tq4,1000000)],[],[(37888,1000000)],[]⟩),(29,⟨[0,3,5],[],[],[(39936,1004096),(42752,1004096)],[]⟩),(37,⟨[0,3,5],[],[],[(45312,1008192),(1004096,1008192)],[]⟩)]
def UJ:Lk:=⟨[(17,⟨[(0,.c (.c (.ptr 0 0))),(3,.c (.c (.ptr 33536 0))),(5,.c (xo 1000000))],[(0,.box [xb]),(33536,.box [xs,xs,(xl (.sl 73 Tq0 .nil)),x64,x64,x64,x64,xs,xb,(xl Tq2),xb,xb,x64,xb,(xl Tq3),(xl Tq1),xs]),(1000000,.arr 183 false Tq4)]⟩),(29,⟨[(0,.c (.c (.ptr 0 0))),(3,.c (.c (.ptr 33536 0))),(5,.c (xo 1004096))],[(0,.box [xb]),(33536,.box [xs,xs,(xl (.sl 73 Tq0 .nil)),x64,x64,x64,x64,xs,xb,(xl Tq2),xb,xb,x64,xb,(xl Tq3),(xl Tq1),xs]),(1004096,.arr 183 false Tq4)]⟩),(37,⟨[(0,.c (.c (.ptr 0 0))),(3,.c (.c (.ptr 33536 0))),(5,.c (xo 1008192))],[(0,.box [xb]),(33536,.box [xs,xs,(xl (.sl 73 Tq0 .nil)),x64,x64,x64,x64,xs,xb,(xl Tq2),xb,xb,x64,xb,(xl Tq3),(xl Tq1),xs]),(1008192,.arr 183 false Tq4)]⟩)],[]⟩
def JL (N:Nat):Sig:=.of [.box [(false,.bool)],Sq2] [.cell false (.sl 183 Tq4)] (fun a=>MN N a.1 a.2)
theorem QO (N:Nat):Ad 83 (JL N):=Ah (Ag [(81,BL N),(75,Dp N),(76,FX N),(143,TN N),(144,I9 N),(78,CB N)] TK) UJ Tryz.f83 N (Ac ⟨BF N,Df N,Gy N,Zj N,OJ N,Cj N,trivial⟩)
def Xx:List (Nat×Nrm):=[(3,⟨[0,4,6,7],[],[],[],[]⟩),(66,⟨[0,4,6,7,57,58,59],[],[],[],[]⟩),(89,⟨[0,4,6,7],[],[],[],[]⟩)]
def Zf:Lk:=⟨[(89,⟨[(0,.c (.c (.ptr 0 0))),(4,.c (.c (.ptr 33792 0))),(6,.c (.c (.ptr 34304 0))),(7,.c (.c (.ptr 34560 0)))],[(0,.box [(xl Tq5)]),(33792,.box [(.c (.int .i64 0)),(.c (.int .i64 0)),(.c (.int .i64 0)),(.c (.int .i64 0)),(xo 33797)]),(33797,.BO 74 false (.sl 73 Tq0 .nil)),(34304,.box [(.c (.int .i64 0)),(.c (.int .i64 0)),(.c (.int .i64 0)),(.c (.int .i64 0)),(xo 34409)]),(34409,.BO 74 false (.sl 73 Tq0 .nil)),(34560,.box [x64,x64,x64,x64,(xl (.sl 73 Tq0 .nil))])]⟩)],[(66,⟨[(0,.c (.c (.ptr 0 0))),(4,.c (.c (.ptr 33792 0))),(6,.c (.c (.ptr 34304 0))),(7,.c (.c (.ptr 34560 0))),(57,.i),(58,.i),(59,.c x64)],[(0,.box [(xl Tq5)]),(33792,.box [(.c (.int .i64 0)),(.c (.int .i64 0)),(.c (.int .i64 0)),(.c (.int .i64 0)),(xo 33797)]),(33797,.BO 74 false (.sl 73 Tq0 .nil)),(34304,.box [(.c (.int .i64 0)),(.c (.int .i64 0)),(.c (.int .i64 0)),(.c (.int .i64 0)),(xo 34409)]),(34409,.BO 74 false (.sl 73 Tq0 .nil)),(34560,.box [x64,x64,x64,x64,(xl (.sl 73 Tq0 .nil))])]⟩,[(0,⟨[(0,.c (.c (.ptr 0 0))),(4,.c (.c (.ptr 33792 0))),(6,.c (.c (.ptr 34304 0))),(7,.c (.c (.ptr 34560 0)))],[(0,.box [(xl Tq5)]),(33792,.box [(.c (.int .i64 0)),(.c (.int .i64 0)),(.c (.int .i64 0)),(.c (.int .i64 0)),(xo 33797)]),(33797,.BO 74 false (.sl 73 Tq0 .nil)),(34304,.box [(.c (.int .i64 0)),(.c (.int .i64 0)),(.c (.int .i64 0)),(.c (.int .i64 0)),(xo 34409)]),(34409,.BO 74 false (.sl 73 Tq0 .nil)),(34560,.box [x64,x64,x64,x64,(xl (.sl 73 Tq0 .nil))])]⟩)])]⟩
def Oj (N:Nat):Sig:=.of [Ip,Sq0] [Sq3,Af] (fun a=>QY N a.1 a.2)
theorem UI (N:Nat):Ad 169 (Oj N):=Ah (Ag [(50,Lu N),(106,PL N),(108,UO N),(109,DY N),(170,Qa N),(239,Rj N),(61,CU N)] Xx) Zf Tryz.f169 N (Ac ⟨Oh N,Rh N,VZ N,DT N,Rl N,X7 N,CP N,trivial⟩)
def TP (N:Nat):Sig:=.of [Ad1,AaA] [Af] (fun a=>X8 N a.1 a.2)
theorem Zk (N:Nat):Ad 171 (TP N):=Ah (Ag [(241,MM N),(242,N7 N),(243,TG N),(244,I8 N)] []) ⟨[],[]⟩ Tryz.f171 N (Ac ⟨TF N,PK N,Zg N,OI N,trivial⟩)
end
noncomputable section
def AaV:List (Nat×Nrm):=[(3,⟨[1,5,7],[([7],9,(.str .nil),1008192)],[],[(1004096,1008192)],[]⟩),(42,⟨[1,5,7,8,26,27,28],[([7],9,(.str .nil),1004096)],[],[(42496,1004096)],[]⟩),(65,⟨[1,5,6],[],[],[],[]⟩)]
def Ac0:Lk:=⟨[(65,⟨[(1,.c (.c (.ptr 33024 0))),(5,.c (.c (.ptr 37376 0))),(6,.c xs)],[(33024,.box [xs,xs,(xl (.sl 73 Tq0 .nil)),x64,x64,x64,x64,xs,xb,(xl Tq2),xb,xb,x64,xb,(xl Tq3),(xl Tq1),xs]),(37376,.box [xb])]⟩)],[(42,⟨[(1,.c (.c (.ptr 33024 0))),(5,.c (.c (.ptr 37376 0))),(7,.c (xo 1004096)),(8,.c (.c (.ptr 34816 0))),(26,.i),(27,.i),(28,.c x64)],[(33024,.box [xs,xs,(xl (.sl 73 Tq0 .nil)),x64,x64,x64,x64,xs,xb,(xl Tq2),xb,xb,x64,xb,(xl Tq3),(xl Tq1),xs]),(34816,.box [(xl (.sl 73 Tq0 .nil))]),(37376,.box [xb]),(1004096,.arr 9 false (.str .nil))]⟩,[(0,⟨[(1,.c (.c (.ptr 33024 0))),(5,.c (.c (.ptr 37376 0))),(7,.c (xo 1008192))],[(33024,.box [xs,xs,(xl (.sl 73 Tq0 .nil)),x64,x64,x64,x64,xs,xb,(xl Tq2),xb,xb,x64,xb,(xl Tq3),(xl Tq1),xs]),(37376,.box [xb]),(1008192,.arr 9 false (.str .nil))]⟩)])]⟩
def Xu (N:Nat):Sig:=.of [Sq2] [Aj,Af] (fun a=>TE N a)
theorem Xv (N:Nat):Ad 32 (Xu N):=Ah (Ag [(10,LW N),(74,TM N),(75,Dp N),(76,FX N),(77,G5 N),(79,L9 N),(78,CB N),(80,N9 N),(83,JL N),(82,Qb N),(81,BL N),(84,Je N)] AaV) Ac0 Tryz.f32 N (Ac ⟨Lt N,Zi N,Df N,Gy N,II N,Oq N,Cj N,PN N,QO N,Rn N,BF N,Gx N,trivial⟩)
def UH:List (Nat×Nrm):=[(3,⟨[8],[([8],35,Tq1,1004096)],[],[(1000000,1004096)],[]⟩),(30,⟨[3,6,8],[([8],35,Tq1,1000000)],[],[(44544,1000000)],[]⟩)]
def WJ:Lk:=⟨[],[(30,⟨[(3,.c (.c (.ptr 33536 0))),(6,.c (.c (.ptr 36352 0))),(8,.c (xo 1000000))],[(33536,.box [(xl (.sl 73 Tq0 .nil))]),(36352,.box [(xl Tq5)]),(1000000,.arr 35 false Tq1)]⟩,[(0,⟨[(8,.c (xo 1004096))],[(1004096,.arr 35 false Tq1)]⟩)])]⟩
def Ld (N:Nat):Sig:=.of [Aj,Sq0] [.cell false (.sl 35 Tq1),Af] (fun a=>Oi N a.1 a.2)
theorem Si (N:Nat):Ad 110 (Ld N):=Ah (Ag [(167,Iu N),(169,Oj N)] UH [(104,EL N),(168,EW N)]) WJ Tryz.f110 N (Ac ⟨JO N,UI N,trivial⟩ ⟨FV N,Jt N,trivial⟩)
def QN:List (Nat×Nrm):=[(3,⟨[7],[],[],[],[]⟩),(26,⟨[0,7,21,22,23],[],[],[],[]⟩)]
def Sj:Lk:=⟨[],[(26,⟨[(0,.c (.c (.ptr 0 0))),(7,.c (xo 37632)),(21,.i),(22,.i),(23,.c x64)],[(0,.box [xs,xs,(xl (.sl 73 Tq0 .nil)),x64,x64,x64,x64,xs,xb,(xl Tq2),xb,xb,x64,xb,(xl Tq3),(xl Tq1),xs]),(37632,.mp (.str .nil) (.bool .nil))]⟩,[(0,⟨[(7,.c (xo 37632))],[(0,.box [xs,xs,(xl (.sl 73 Tq0 .nil)),x64,x64,x64,x64,xs,xb,(xl Tq2),xb,xb,x64,xb,(xl Tq3),(xl Tq1),xs]),(37632,.mp (.str .nil) (.bool .nil))]⟩)])]⟩
def IA (N:Nat):Sig:=.of [Ad1,Aj] [Af] (fun a=>JK N a.1 a.2)
theorem OL (N:Nat):Ad 111 (IA N):=Ah (Ag [(170,Qa N),(171,TP N)] QN) Sj Tryz.f111 N (Ac ⟨Rl N,Zk N,trivial⟩)
end
noncomputable section
def ZE (N:Nat):Sig:=.of [Sq2,aP] [Aj,Af] (fun a=>MK N a.1 a.2)
theorem l7 (N:Nat):Ad 24 (ZE N):=Ah (Ag [(32,Xu N),(55,KY N),(33,eU N)] []) ⟨[],[]⟩ Tryz.f24 N (Ac ⟨Xv N,QU N,qL N,trivial⟩)
def aW:List (Nat×Nrm):=[(117,⟨[0,5,9],[],[],[],[]⟩)]
def fB:Lk:=⟨[(117,⟨[(0,.c (.c (.ptr 0 0))),(5,.c (.c (.ptr 36608 0))),(9,.c (.c (.ptr 35072 0)))],[(0,.box [xs,xs,(xl (.sl 73 Tq0 .nil)),x64,x64,x64,x64,xs,xb,(xl Tq2),xb,xb,x64,xb,(xl Tq3),(xl Tq1),xs]),(35072,.box [x64,xs,xs]),(36608,.box [(xl Tq5)])]⟩)],[]⟩
def QZ (N:Nat):Sig:=.of [Ad1,Aj] [Af] (fun a=>VT N a.1 a.2)
theorem Xy (N:Nat):Ad 58 (QZ N):=Ah (Ag [(106,PL N),(59,JJ N),(57,CV N),(107,L8 N),(108,UO N),(109,DY N),(110,Ld N),(111,IA N),(61,CU N)] aW [(104,EL N)]) fB Tryz.f58 N (Ac ⟨Rh N,ML N,CQ N,Oo N,VZ N,DT N,Si N,OL N,CP N,trivial⟩ ⟨FV N,trivial⟩)
end
noncomputable section
def Xt (N:Nat):Sig:=.of [Aj] [Sq2,Af] (fun a=>JH N a)
theorem eP (N:Nat):Ad 25 (Xt N):=Ah (Ag [(57,CV N),(58,QZ N),(59,JJ N),(60,Ri N),(61,CU N),(10,LW N),(32,Xu N)] [] [(56,H7 N)]) ⟨[],[]⟩ Tryz.f25 N (Ac ⟨CQ N,Xy N,ML N,X6 N,CP N,Lt N,Xv N,trivial⟩ ⟨JM N,trivial⟩)
end
noncomputable section
def Wl (N:Nat):Sig:=.of [] [AL] (fun _=>F9 N)
theorem bP (N:Nat):Ad 9 (Wl N):=Ah (Ag [(23,ZT N),(8,Ji N),(24,ZE N),(25,Xt N),(17,eQ N),(28,Lp N),(27,Xw N),(20,Xq N)] [] [(22,QD N)] [] [] [45,48,49,55,56,58,59,63,64,67] [(8,7,49,[50,51,52,53,54])]) ⟨[],[]⟩ Tryz.f9 N (Ac ⟨mZ N,Lj N,l7 N,eP N,qK N,Tf N,eX N,Xr N,trivial⟩ ⟨o5 N,trivial⟩)
end
noncomputable section
def bM:List (Nat×Nrm):=[(3,⟨[5],[],[],[(34164,1004096),(1000000,1004096)],[34158,34163,1004096]⟩),(14,⟨[0,5,6],[],[],[(34164,1000000),(40192,1000000)],[]⟩)]
def iY:Lk:=⟨[],[(14,⟨[(0,.i),(5,.c (.c (.ptr 34048 0))),(6,.c x64)],[(34048,.box [(.c (.str ([]:Bs))),(.c (.str ([]:Bs))),(xl (.sl 73 Tq0 .nil)),(.c (.int .i64 0)),(.c (.int .i64 0)),(.c (.int .i64 3)),(.c (.int .i64 (-1))),(.c (.str ([]:Bs))),(.c (.bool false)),(xo 34158),(.c (.bool false)),(.c (.bool false)),(.c (.int .i64 0)),(.c (.bool false)),(xo 34163),(xo 1000000),(.c (.str ([]:Bs)))]),(34158,.BO 85 false Tq2),(34163,.BO 134 false Tq3),(1000000,.arr 35 false Tq1)]⟩,[(0,⟨[(5,.c (.c (.ptr 34048 0)))],[(34048,.box [(.c (.str ([]:Bs))),(.c (.str ([]:Bs))),(xl (.sl 73 Tq0 .nil)),(.c (.int .i64 0)),(.c (.int .i64 0)),(.c (.int .i64 3)),(.c (.int .i64 (-1))),(.c (.str ([]:Bs))),(.c (.bool false)),(xo 34158),(.c (.bool false)),(.c (.bool false)),(.c (.int .i64 0)),(.c (.bool false)),(xo 34163),(xo 1004096),(.c (.str ([]:Bs)))]),(34158,.BO 85 true Tq2),(34163,.BO 134 true Tq3),(1004096,.arr 35 true Tq1)]⟩)])]⟩
def iZ (N:Nat):Sig:=.of [.cell false (.int .u8),AaB] [AL] (fun a=>Fb N a.1 a.2)
theorem Yh (N:Nat):Ad 3 (iZ N):=Ah (Ag [(8,Ji N),(9,Wl N),(10,LW N),(11,O7 N)] bM) iY Tryz.f3 N (Ac ⟨Lj N,bP N,Lt N,VE N,trivial⟩)
end
