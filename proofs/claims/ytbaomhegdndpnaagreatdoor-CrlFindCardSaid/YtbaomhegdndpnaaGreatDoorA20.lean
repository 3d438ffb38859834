import Derived.Test.YtbaomhegdndpnaaGreatDoorA19
set_option linter.all false
namespace Go.Proofs.YtbaomhegdndpnaaGreatDoor.Vm
noncomputable section
open Go.Proofs
def Jq (N:Nat):Sig:=.of [Sq0,Sq0] [AZ] (fun a=>EP N a.1 a.2)
theorem J4 (N:Nat):Ad 91 (Jq N):=Ah (Ag [(153,Ug N)] []) ⟨[],[]⟩ Tryz.f91 N (Ac ⟨Zp N,trivial⟩)
def Jb (N:Nat):Alt:=.of [.cell false .str,.cell false (.int .i64)] [Sq9,.cell false (.int .i64)] [.cell false .ptr,.cell false (.int .i64)] (fun a=>Hw N a.1 a.2)
theorem WY (N:Nat):Spec Tryz.prog 98 (Jb N).1/\Spec Tryz.prog 98 (Jb N).2.1:=Iu (C:=ctx Tryz.prog [(159,Fb N)] [] [] [] [23]) (L:=⟨[],[]⟩) (fn:=Tryz.f98) (N:=N) (Ac ⟨Ez N,trivial⟩) (by kernel_rfl) (by kernel_rfl) (fun a=>by kernel_rfl)
def SK:List (Nat×Nrm):=[(3,⟨[],[],[],[],[]⟩),(11,⟨[0,13,14,15],[],[],[],[]⟩),(26,⟨[0,13,14,15],[],[],[],[]⟩),(62,⟨[0,4,13,14,15,41,42,43],[],[],[],[]⟩)]
def Uh:Lk:=⟨[],[(26,⟨[(0,.i),(13,.i),(14,.i),(15,.c x64)],[]⟩,[(0,⟨[],[]⟩)]),(62,⟨[(0,.i),(4,.c (.c (.ptr 33792 0))),(13,.i),(14,.i),(15,.i),(41,.i),(42,.i),(43,.c x64)],[(33792,.box [xs,x64,xs])]⟩,[(2,⟨[(0,.i),(13,.i),(14,.i),(15,.i)],[]⟩)])]⟩
def JE (N:Nat):Sig:=.of [.cell false (.sl 73 Tq0)] [Ae] (fun a=>LJ N a)
theorem Qj (N:Nat):Ad 86 (JE N):=Ah (Ag [(148,Tj N),(149,YP N)] SK) Uh Tryz.f86 N (Ac ⟨U0 N,kZ N,trivial⟩)
def Ns (N:Nat):Sig:=.of [Ae,Aj,AZ] [AZ] (fun a=>J6 N a.1 a.2.1 a.2.2)
theorem Um (N:Nat):Ad 151 (Ns N):=Ah (Ag [(211,RJ N),(212,SX N),(213,ZT N),(214,Ur N),(215,Yg N),(216,Un N)] [] [] [] [] [11,14,15,18,21,22,26,29,30,33,36,37,41,44,45,48,51,52]) ⟨[],[]⟩ Tryz.f151 N (Ac ⟨Yf N,Uo N,nP N,Zu N,jA N,Zt N,trivial⟩)
def rY:List (Nat×Nrm):=[(3,⟨[5],[([5],9,(.str .nil),1004096)],[],[(1000000,1004096)],[]⟩),(26,⟨[5,17,18,19],[([5],9,(.str .nil),1000000)],[],[(41216,1000000)],[]⟩)]
def wU:Lk:=⟨[],[(26,⟨[(5,.c (xo 1000000)),(17,.i),(18,.i),(19,.c x64)],[(1000000,.arr 9 false (.str .nil))]⟩,[(0,⟨[(5,.c (xo 1004096))],[(1004096,.arr 9 false (.str .nil))]⟩)])]⟩
def Qn (N:Nat):Sig:=.of [.cell false (.sl 183 Tq4)] [Aj,Ae] (fun a=>Vp N a)
theorem RG (N:Nat):Ad 82 (Qn N):=Ah (Ag [(141,SN N),(142,RI N),(136,EM N)] rY) wU Tryz.f82 N (Ac ⟨Ui N,XR N,DY N,trivial⟩)
def KJ (N:Nat):Sig:=.of [Aj,Ae,Ae,Aj,Aj] [Aj] (fun a=>Jw N a.1 a.2.1 a.2.2.1 a.2.2.2.1 a.2.2.2.2)
theorem N9 (N:Nat):Ad 118 (KJ N):=Ah (Ag [(178,aB N),(161,merkle_b4_S N),(159,Fb N)] []) ⟨[],[]⟩ Tryz.f118 N (Ac ⟨o9 N,MG N,Ez N,trivial⟩)
def Aa3:List (Nat×Nrm):=[(3,⟨[5],[],[],[],[]⟩),(10,⟨[0,1,2,4,5,13],[],[],[],[]⟩)]
def Acr:Lk:=⟨[],[(10,⟨[(0,.i),(1,.i),(2,.i),(4,.i),(5,.c xs),(13,.c x64)],[]⟩,[(0,⟨[(5,.c xs)],[]⟩)])]⟩
def Pz (N:Nat):Sig:=.of [Aj,Ae,Ae,Ae,Ae,Aj] [Aj] (fun a=>MH N a.1 a.2.1 a.2.2.1 a.2.2.2.1 a.2.2.2.2.1 a.2.2.2.2.2)
theorem Oo (N:Nat):Ad 176 (Pz N):=Ah (Ag [(247,VE N),(248,dQ N),(159,Fb N)] Aa3) Acr Tryz.f176 N (Ac ⟨Tm N,aG N,Ez N,trivial⟩)
end
noncomputable section
def Kq (N:Nat):Sig:=.of [IU] [Ae] (fun a=>NS N a)
theorem Nk (N:Nat):Ad 59 (Kq N):=Ah (Ag [(105,G6 N),(112,Ij N)] []) ⟨[],[]⟩ Tryz.f59 N (Ac ⟨GZ N,Nv N,trivial⟩)
def Rj:List (Nat×Nrm):=[(3,⟨[6],[([6],73,Tq0,1004096)],[],[(1000000,1004096)],[]⟩),(42,⟨[6,26,27,28],[([6],73,Tq0,1000000)],[],[(43776,1000000)],[]⟩)]
def SL:Lk:=⟨[],[(42,⟨[(6,.c (xo 1000000)),(26,.i),(27,.i),(28,.c x64)],[(1000000,.arr 73 false Tq0)]⟩,[(0,⟨[(6,.c (xo 1004096))],[(1004096,.arr 73 false Tq0)]⟩)])]⟩
def Jk (N:Nat):Sig:=.of [GY] [.cell false (.sl 73 Tq0),Ae] (fun a=>Kw N a)
theorem Ph (N:Nat):Ad 165 (Jk N):=Ah (Ag [(163,EL N),(234,Su N),(235,IP N)] Rj) SL Tryz.f165 N (Ac ⟨DX N,YQ N,Ob N,trivial⟩)
def mF:List (Nat×Nrm):=[(33,⟨[1,6],[],[],[],[]⟩),(69,⟨[1,6,7],[],[],[],[]⟩)]
def rO:Lk:=⟨[(33,⟨[(1,.i),(6,.c x64)],[]⟩),(69,⟨[(1,.i),(6,.i),(7,.c x64)],[]⟩)],[]⟩
def NU (N:Nat):Sig:=.of [Ae,Aj] [Ae,Ae] (fun a=>SI N a.1 a.2)
theorem PZ (N:Nat):Ad 166 (NU N):=Ah (Ag [(236,Oa N),(238,XJ N),(237,Ue N)] mF) rO Tryz.f166 N (Ac ⟨Qd N,gY N,Zn N,trivial⟩)
def Fz (N:Nat):Alt:=.of [IU] [IU,.cell false (.int .i64)] [.cell false .ptr,.cell false (.int .i64)] (fun a=>IW N a)
theorem JD (N:Nat):Spec Tryz.prog 168 (Fz N).1/\Spec Tryz.prog 168 (Fz N).2.1:=Iu (C:=ctx Tryz.prog [(57,Dk N)] [] [(104,EW N)]) (L:=⟨[],[]⟩) (fn:=Tryz.f168) (N:=N) (Ac ⟨Dh N,trivial⟩ ⟨G5 N,trivial⟩) (by kernel_rfl) (by kernel_rfl) (fun a=>by kernel_rfl)
def NT (N:Nat):Sig:=.of [Aj,Ae] [Ae,Ae] (fun a=>MN N a.1 a.2)
theorem PX (N:Nat):Ad 242 (NT N):=Ah (Ag [(103,DW N),(164,MJ N)] []) ⟨[],[]⟩ Tryz.f242 N (Ac ⟨Gu N,OH N,trivial⟩)
def Z8:List (Nat×Nrm):=[(3,⟨[],[],[],[],[]⟩),(18,⟨[0,1,12,13],[],[],[],[]⟩)]
def dX:Lk:=⟨[],[(18,⟨[(0,.i),(1,.i),(12,.i),(13,.c x64)],[]⟩,[(0,⟨[],[]⟩)])]⟩
def QO (N:Nat):Sig:=.of [.cell false (.sl 73 Tq0),.cell false (.sl 73 Tq0)] [AZ] (fun a=>IJ N a.1 a.2)
theorem Xb (N:Nat):Ad 158 (QO N):=Ah (Ag [(228,aN N)] Z8) dX Tryz.f158 N (Ac ⟨oP N,trivial⟩)
def o7:List (Nat×Nrm):=[(3,⟨[3],[([3],134,Tq3,1008192)],[],[(1000000,1008192)],[]⟩),(14,⟨[0,3,4],[([3],134,Tq3,1000000)],[],[(41216,1000000)],[]⟩),(33,⟨[0,3,4,5],[([3],134,Tq3,1004096)],[(some 34048,3,(.sl 73 Tq0 .nil))],[(1000000,1004096)],[]⟩)]
def sN:Lk:=⟨[(33,⟨[(0,.c (.c (.ptr 0 0))),(3,.c (xo 1004096)),(4,.i),(5,.c (.c (.ptr 34048 0)))],[(0,.box [(xl (.int .i64 .nil)),x64]),(34048,.box [(xo 36608),x64,xb,(xl (.sl 73 Tq0 .nil))]),(36608,.arr 85 false Tq2),(1004096,.arr 134 false Tq3)]⟩)],[(14,⟨[(0,.c (.c (.ptr 0 0))),(3,.c (xo 1000000)),(4,.c x64)],[(0,.box [(xl (.int .i64 .nil)),x64]),(1000000,.arr 134 false Tq3)]⟩,[(0,⟨[(3,.c (xo 1008192))],[(0,.box [(xl (.int .i64 .nil)),x64]),(1008192,.arr 134 false Tq3)]⟩)])]⟩
def Wx (N:Nat):Sig:=.of [Xg] [.cell false (.sl 134 Tq3)] (fun a=>MR N a)
theorem dG (N:Nat):Ad 48 (Wx N):=Ah (Ag [(16,CZ N),(47,MC N),(8,Fg N)] o7) sN Tryz.f48 N (Ac ⟨CV N,OD N,F5 N,trivial⟩)
end
noncomputable section
def QE (N:Nat):Sig:=.of [Aj,Ae,Sq8] [Aj] (fun a=>KY N a.1 a.2.1 a.2.2)
theorem RX (N:Nat):Ad 177 (QE N):=Ah (Ag [(247,VE N),(232,VF N),(159,Fb N)] []) ⟨[],[]⟩ Tryz.f177 N (Ac ⟨Tm N,WC N,Ez N,trivial⟩)
def QF (N:Nat):Sig:=.of [Aj,Ae,Ae] [Aj] (fun a=>KZ N a.1 a.2.1 a.2.2)
theorem RY (N:Nat):Ad 231 (QF N):=Ah (Ag [(247,VE N),(248,dQ N),(159,Fb N)] []) ⟨[],[]⟩ Tryz.f231 N (Ac ⟨Tm N,aG N,Ez N,trivial⟩)
def merkle_digest_S (N:Nat):Sig:=.of [GY,Ae,Aj] [Aj] (fun a=>merkle_digest N a.1 a.2.1 a.2.2)
theorem N8 (N:Nat):Ad 117 (merkle_digest_S N):=Ah (Ag [(161,merkle_b4_S N),(159,Fb N)] []) ⟨[],[]⟩ Tryz.f117 N (Ac ⟨MG N,Ez N,trivial⟩)
def Ve (N:Nat):Sig:=.of [IU] [Ae,Ae] (fun a=>Vd N a)
theorem Wn (N:Nat):Ad 108 (Ve N):=Ah (Ag [(105,G6 N),(166,NU N)] []) ⟨[],[]⟩ Tryz.f108 N (Ac ⟨GZ N,PZ N,trivial⟩)
def rX:List (Nat×Nrm):=[(3,⟨[7],[([7],183,Tq4,1004096)],[],[(1000000,1004096)],[]⟩),(46,⟨[7,33,34,35],[([7],183,Tq4,1000000)],[],[(45568,1000000)],[]⟩)]
def wR:Lk:=⟨[],[(46,⟨[(7,.c (xo 1000000)),(33,.i),(34,.i),(35,.c x64)],[(1000000,.arr 183 false Tq4)]⟩,[(0,⟨[(7,.c (xo 1004096))],[(1004096,.arr 183 false Tq4)]⟩)])]⟩
def Qm (N:Nat):Sig:=.of [Aj] [.cell false (.sl 183 Tq4),Ae] (fun a=>Vo N a)
theorem RF (N:Nat):Ad 170 (Qm N):=Ah (Ag [(162,JQ N),(163,EL N),(240,RH N),(141,SN N)] rX) wR Tryz.f170 N (Ac ⟨Ir N,DX N,XQ N,Ui N,trivial⟩)
def Wh (N:Nat):Sig:=.of [Aj] [Ae,Ae] (fun a=>ZI N a)
theorem bH (N:Nat):Ad 286 (Wh N):=Ah (Ag [(162,JQ N),(166,NU N)] []) ⟨[],[]⟩ Tryz.f286 N (Ac ⟨Ir N,PZ N,trivial⟩)
def Nl (N:Nat):Sig:=.of [Aj] [Aj,Ae] (fun a=>PW N a)
theorem TV (N:Nat):Ad 241 (Nl N):=Ah (Ag [(57,Dk N),(61,Dj N)] [] [(56,Iz N)]) ⟨[],[]⟩ Tryz.f241 N (Ac ⟨Dh N,Df N,trivial⟩ ⟨Ku N,trivial⟩)
end
noncomputable section
def wG:List (Nat×Nrm):=[(3,⟨[],[],[],[],[]⟩),(10,⟨[2,4,9,10,11],[],[],[],[]⟩)]
def Aag:Lk:=⟨[],[(10,⟨[(2,.i),(4,.c (.c (.ptr 33792 0))),(9,.i),(10,.i),(11,.c x64)],[(33792,.box [(xl (.sl 73 Tq0 .nil))])]⟩,[(0,⟨[],[]⟩)])]⟩
def SH (N:Nat):Sig:=.of [.cell false (.sl 35 Tq1),Sq0,Ae] [Ae] (fun a=>Nq N a.1 a.2.1 a.2.2)
theorem Ua (N:Nat):Ad 49 (SH N):=Ah (Ag [(91,Jq N)] wG) Aag Tryz.f49 N (Ac ⟨J4 N,trivial⟩)
def Tv (N:Nat):Alt:=.of [.cell false .str,.cell false (.int .i64),.cell false (.int .i64)] [aX,.cell false (.int .i64)] [.cell false .ptr,.cell false (.int .i64)] (fun a=>YH N a.1 a.2.1 a.2.2)
theorem uB (N:Nat):Spec Tryz.prog 52 (Tv N).1/\Spec Tryz.prog 52 (Tv N).2.1:=Iu (C:=ctx Tryz.prog [(99,merkle_Tree_Leaves_S N)] [] [(98,Jb N)]) (L:=⟨[],[]⟩) (fn:=Tryz.f52) (N:=N) (Ac ⟨F8 N,trivial⟩ ⟨WY N,trivial⟩) (by kernel_rfl) (by kernel_rfl) (fun a=>by kernel_rfl)
def mV:List (Nat×Nrm):=[(3,⟨[],[],[],[],[]⟩),(18,⟨[11,12,13],[],[],[],[]⟩)]
def rV:Lk:=⟨[],[(18,⟨[(11,.i),(12,.i),(13,.c x64)],[]⟩,[(0,⟨[],[]⟩)])]⟩
def EE (N:Nat):Sig:=.of [Sq0] [Ae] (fun a=>Gh N a)
theorem Eh (N:Nat):Ad 35 (EE N):=Ah (Ag [(86,JE N)] mV) rV Tryz.f35 N (Ac ⟨Qj N,trivial⟩)
def fQ (N:Nat):Sig:=.of [Aj,Aj] [Aj,Ae] (fun a=>UW N a.1 a.2)
theorem rJ (N:Nat):Ad 33 (fQ N):=Ah (Ag [(85,ZG N)] []) ⟨[],[]⟩ Tryz.f33 N (Ac ⟨lT N,trivial⟩)
def tC:List (Nat×Nrm):=[(3,⟨[0,2,9],[],[],[],[]⟩),(26,⟨[0,1,2,9,10],[([9],9,(.str .nil),1000000)],[],[(40960,1000000)],[]⟩)]
def yN:Lk:=⟨[],[(26,⟨[(0,.i),(1,.i),(2,.i),(9,.c (xo 1000000)),(10,.c x64)],[(1000000,.arr 9 false (.str .nil))]⟩,[(0,⟨[(0,.i),(2,.i),(9,.c (xo 1000000))],[(1000000,.arr 9 false (.str .nil))]⟩)])]⟩
def Y3 (N:Nat):Sig:=.of [Aj,Aj,Ae] [Aj,Ae] (fun a=>Py N a.1 a.2.1 a.2.2)
theorem jY (N:Nat):Ad 179 (Y3 N):=Ah (Ag [(230,KX N),(231,QF N),(176,Pz N),(177,QE N)] tC) yN Tryz.f179 N (Ac ⟨NF N,RY N,Oo N,RX N,trivial⟩)
def Aa1:List (Nat×Nrm):=[(3,⟨[13],[],[],[],[]⟩),(38,⟨[0,1,2,11,13,14],[([13],9,(.str .nil),1000000)],[],[(45056,1000000)],[]⟩)]
def Aco:Lk:=⟨[],[(38,⟨[(0,.i),(1,.i),(2,.i),(11,.i),(13,.c (xo 1000000)),(14,.c x64)],[(1000000,.arr 9 false (.str .nil))]⟩,[(0,⟨[(13,.c (xo 1000000))],[(1000000,.arr 9 false (.str .nil))]⟩)])]⟩
def ots_Sign_S (N:Nat):Sig:=.of [Aj,Aj,Ae,Aj] [Aj,Ae] (fun a=>ots_Sign N a.1 a.2.1 a.2.2.1 a.2.2.2)
theorem tJ (N:Nat):Ad 160 (ots_Sign_S N):=Ah (Ag [(230,KX N),(175,QC N),(231,QF N),(176,Pz N),(232,VF N)] Aa1) Aco Tryz.f160 N (Ac ⟨NF N,RV N,RY N,Oo N,WC N,trivial⟩)
def oH:List (Nat×Nrm):=[(3,⟨[0,1,13],[],[],[],[]⟩),(46,⟨[0,1,3,11,13,14],[([13],9,(.str .nil),1000000)],[],[(46336,1000000)],[]⟩)]
def tH:Lk:=⟨[],[(46,⟨[(0,.i),(1,.i),(3,.i),(11,.i),(13,.c (xo 1000000)),(14,.c x64)],[(1000000,.arr 9 false (.str .nil))]⟩,[(0,⟨[(0,.i),(1,.i),(13,.c (xo 1000000))],[(1000000,.arr 9 false (.str .nil))]⟩)])]⟩
def WB (N:Nat):Sig:=.of [Aj,Ae,Aj,Aj] [Aj,Ae] (fun a=>MV N a.1 a.2.1 a.2.2.1 a.2.2.2)
theorem dP (N:Nat):Ad 116 (WB N):=Ah (Ag [(174,KW N),(175,QC N),(176,Pz N),(177,QE N)] oH) tH Tryz.f116 N (Ac ⟨ND N,RV N,Oo N,RX N,trivial⟩)
end
noncomputable section
def UU (N:Nat):Sig:=.of [Sq2,Sq0,Ae] [Sq3,AZ] (fun a=>H9 N a.1 a.2.1 a.2.2)
theorem VY (N:Nat):Ad 17 (UU N):=Ah (Ag [(49,SH N),(50,LW N)] []) ⟨[],[]⟩ Tryz.f17 N (Ac ⟨Ua N,Oz N,trivial⟩)
def QQ (N:Nat):Alt:=.of [.cell false .str,.cell false (.int .i64)] [aX,.cell false (.int .i64)] [.cell false .ptr,.cell false (.int .i64)] (fun a=>Lu N a.1 a.2)
theorem oV (N:Nat):Spec Tryz.prog 22 (QQ N).1/\Spec Tryz.prog 22 (QQ N).2.1:=Iu (C:=ctx Tryz.prog [] [] [(52,Tv N)]) (L:=⟨[],[]⟩) (fn:=Tryz.f22) (N:=N) (Ac trivial ⟨uB N,trivial⟩) (by kernel_rfl) (by kernel_rfl) (fun a=>by kernel_rfl)
def GM (N:Nat):Sig:=.of [Abe,AZ] [Ae] (fun a=>Jl N a.1 a.2)
theorem G9 (N:Nat):Ad 87 (GM N):=Ah (Ag [(150,iR N),(35,EE N),(151,Ns N)] []) ⟨[],[]⟩ Tryz.f87 N (Ac ⟨rZ N,Eh N,Um N,trivial⟩)
def PU (N:Nat):Sig:=.of [Sq2,Ae] [Ae] (fun a=>TT N a.1 a.2)
theorem WN (N:Nat):Ad 39 (PU N):=Ah (Ag [(36,Vb N),(89,XA N),(35,EE N),(90,TY N),(91,Jq N),(49,SH N)] []) ⟨[],[]⟩ Tryz.f39 N (Ac ⟨Wj N,gK N,Eh N,Zj N,J4 N,Ua N,trivial⟩)
def iE:List (Nat×Nrm):=[(3,⟨[5],[([5],9,(.str .nil),1012288)],[],[(1000000,1012288)],[]⟩),(11,⟨[5,8,21,22,23],[([8],9,(.str .nil),1008192),([5],9,(.str .nil),1008208)],[],[(1004096,1008192),(1004112,1008208)],[]⟩),(26,⟨[5,21,22,23],[([5],9,(.str .nil),1000000)],[],[(47872,1000000)],[]⟩),(42,⟨[5,8,21,22,23,27,28,29],[([8],9,(.str .nil),1004096),([5],9,(.str .nil),1004112)],[],[(44032,1004096),(1000000,1004112)],[]⟩)]
def mX:Lk:=⟨[],[(26,⟨[(5,.c (xo 1000000)),(21,.i),(22,.i),(23,.c x64)],[(1000000,.arr 9 false (.str .nil))]⟩,[(0,⟨[(5,.c (xo 1012288))],[(1012288,.arr 9 false (.str .nil))]⟩)]),(42,⟨[(5,.c (xo 1004112)),(8,.c (xo 1004096)),(21,.i),(22,.i),(23,.i),(27,.i),(28,.i),(29,.c x64)],[(1004096,.arr 9 false (.str .nil)),(1004112,.arr 9 false (.str .nil))]⟩,[(2,⟨[(5,.c (xo 1008208)),(8,.c (xo 1008192)),(21,.i),(22,.i),(23,.i)],[(1008192,.arr 9 false (.str .nil)),(1008208,.arr 9 false (.str .nil))]⟩)])]⟩
def Mc (N:Nat):Sig:=.of [Sq0] [Aj,Ae] (fun a=>Qi N a)
theorem OA (N:Nat):Ad 79 (Mc N):=Ah (Ag [(35,EE N),(137,IQ N),(138,TE N),(136,EM N)] iE) mX Tryz.f79 N (Ac ⟨Eh N,Oe N,pI N,DY N,trivial⟩)
def WZ:List (Nat×Nrm):=[(3,⟨[0,2],[([2],9,(.str .nil),1004096)],[],[(1000000,1004096)],[]⟩),(11,⟨[],[],[],[(44032,1020480),(1008192,1020480)],[]⟩),(14,⟨[0,2,3],[([2],9,(.str .nil),1000000)],[],[(43264,1000000)],[]⟩),(19,⟨[0,6,7],[([7],9,(.str .nil),1016384)],[],[(44032,1016400),(1012288,1016384),(1012304,1016400)],[]⟩),(38,⟨[0,2,6],[],[],[(44032,1008192),(56576,1008192),(1016384,1004096)],[]⟩),(54,⟨[0,2,6,7,8],[([7],9,(.str .nil),1012288)],[],[(44032,1012304),(54016,1012288),(1008192,1012304)],[]⟩)]
def Yy:Lk:=⟨[],[(14,⟨[(0,.c (.c (.ptr 0 0))),(2,.c (xo 1000000)),(3,.c x64)],[(0,.box [(.h (.ln (.sl 9 (.str .nil) .nil))),xs,xs,x64]),(1000000,.arr 9 false (.str .nil))]⟩,[(0,⟨[(0,.c (.c (.ptr 0 0))),(2,.c (xo 1004096))],[(0,.box [(.h (.ln (.sl 9 (.str .nil) .nil))),xs,xs,x64]),(1004096,.arr 9 false (.str .nil))]⟩)]),(38,⟨[(0,.c (.c (.ptr 0 0))),(2,.c (xo 1004096)),(6,.c x64)],[(0,.box [(xo 1008192),xs,xs,x64]),(1004096,.arr 9 true (.str .nil)),(1008192,.arr 67 false (.sl 9 (.str .nil) .nil))]⟩,[(2,⟨[],[(0,.box [(xo 1020480),xs,xs,x64]),(1020480,.arr 67 false (.sl 9 (.str .nil) .nil))]⟩)]),(54,⟨[(0,.c (.c (.ptr 0 0))),(2,.c (xo 1004096)),(6,.i),(7,.c (xo 1012288)),(8,.c x64)],[(0,.box [(xo 1012304),xs,xs,x64]),(1004096,.arr 9 true (.str .nil)),(1012288,.arr 9 false (.str .nil)),(1012304,.arr 67 false (.sl 9 (.str .nil) .nil))]⟩,[(4,⟨[(0,.c (.c (.ptr 0 0))),(6,.i),(7,.c (xo 1016384))],[(0,.box [(xo 1016400),xs,xs,x64]),(1016384,.arr 9 false (.str .nil)),(1016400,.arr 67 false (.sl 9 (.str .nil) .nil))]⟩)])]⟩
def N7 (N:Nat):Sig:=.of [Sq9] [] (fun a=>DC N a)
theorem Uy (N:Nat):Ad 120 (N7 N):=Ah (Ag [(179,Y3 N),(118,KJ N)] WZ) Yy Tryz.f120 N (Ac ⟨jY N,N9 N,trivial⟩)
def iD:List (Nat×Nrm):=[(3,⟨[2,4,8],[],[],[(34817,1004096),(1000000,1004096)],[]⟩),(50,⟨[2,4,8,37,38,39],[],[],[(34817,1000000),(47104,1000000)],[]⟩)]
def mW:Lk:=⟨[],[(50,⟨[(2,.c (.c (.ptr 33280 0))),(4,.c (.c (.ptr 33792 0))),(8,.c (.c (.ptr 34816 0))),(37,.i),(38,.i),(39,.c x64)],[(33280,.box [(xo 33281)]),(33281,.AV 74 false (.sl 73 Tq0 .nil)),(33792,.box [(xo 33793)]),(33793,.AV 74 false (.sl 73 Tq0 .nil)),(34816,.box [(xo 1000000)]),(1000000,.arr 74 false (.sl 73 Tq0 .nil))]⟩,[(0,⟨[(2,.c (.c (.ptr 33280 0))),(4,.c (.c (.ptr 33792 0))),(8,.c (.c (.ptr 34816 0)))],[(33280,.box [(xo 33281)]),(33281,.AV 74 false (.sl 73 Tq0 .nil)),(33792,.box [(xo 33793)]),(33793,.AV 74 false (.sl 73 Tq0 .nil)),(34816,.box [(xo 1004096)]),(1004096,.arr 74 false (.sl 73 Tq0 .nil))]⟩)])]⟩
def LZ (N:Nat):Sig:=.of [Aj] [Sq0,Ae] (fun a=>Qh N a)
theorem O9 (N:Nat):Ad 107 (LZ N):=Ah (Ag [(162,JQ N),(163,EL N),(165,Jk N),(35,EE N)] iD) mW Tryz.f107 N (Ac ⟨Ir N,DX N,Ph N,Eh N,trivial⟩)
def dK:List (Nat×Nrm):=[(3,⟨[3,10],[],[],[],[]⟩),(58,⟨[3,10,12,13,14],[],[],[],[]⟩),(61,⟨[3,10,12,13,14],[],[],[],[]⟩)]
def jT:Lk:=⟨[(61,⟨[(3,.c (.c (.ptr 33536 0))),(10,.c xs),(12,.i),(13,.i),(14,.i)],[(33536,.box [x64,xs,xs])]⟩)],[(58,⟨[(3,.c (.c (.ptr 33536 0))),(10,.c xs),(12,.i),(13,.c x64),(14,.c x64)],[(33536,.box [x64,xs,xs])]⟩,[(0,⟨[(3,.c (.c (.ptr 33536 0))),(10,.c xs)],[(33536,.box [x64,xs,xs])]⟩)])]⟩
def RS (N:Nat):Sig:=.of [GY,Aj,Aj] [Ae] (fun a=>Jv N a.1 a.2.1 a.2.2)
theorem Yz (N:Nat):Ad 65 (RS N):=Ah (Ag [(114,Uw N),(115,Wy N),(117,merkle_digest_S N),(116,WB N),(118,KJ N)] dK) jT Tryz.f65 N (Ac ⟨Zz N,dJ N,N8 N,dP N,N9 N,trivial⟩)
end
noncomputable section
def Xa:List (Nat×Nrm):=[(3,⟨[],[],[],[],[]⟩),(18,⟨[2,3,15,16],[],[],[],[]⟩)]
def YB:Lk:=⟨[],[(18,⟨[(2,.c (.c (.ptr 33280 0))),(3,.c (.c (.ptr 33536 0))),(15,.i),(16,.c x64)],[(33280,.box [(xl (.sl 73 Tq0 .nil))]),(33536,.box [(xl (.sl 73 Tq0 .nil))])]⟩,[(0,⟨[],[]⟩)])]⟩
def NH (N:Nat):Sig:=.of [Sq0,Sq0] [AZ] (fun a=>Fq N a.1 a.2)
theorem UC (N:Nat):Ad 97 (NH N):=Ah (Ag [(158,QO N)] Xa) YB Tryz.f97 N (Ac ⟨Xb N,trivial⟩)
end
noncomputable section
def OL (N:Nat):Sig:=.of [Sq0,Sq0] [AZ] (fun a=>FW N a.1 a.2)
theorem VM (N:Nat):Ad 51 (OL N):=Ah (Ag [(97,NH N)] []) ⟨[],[]⟩ Tryz.f51 N (Ac ⟨UC N,trivial⟩)
end
noncomputable section
def YC:List (Nat×Nrm):=[(3,⟨[6],[],[],[],[]⟩),(10,⟨[2,4,6,11,12,13],[],[],[],[]⟩)]
def Z9:Lk:=⟨[],[(10,⟨[(2,.i),(4,.c (.c (.ptr 33792 0))),(6,.c (.c (.ptr 34304 0))),(11,.i),(12,.i),(13,.c x64)],[(33792,.box [(xl (.sl 73 Tq0 .nil))]),(34304,.box [(.c (.int .i64 0)),(.c (.int .i64 0)),(.c (.int .i64 0)),(.c (.int .i64 0)),(xo 34309)]),(34309,.AV 74 false (.sl 73 Tq0 .nil))]⟩,[(0,⟨[(6,.c (.c (.ptr 34304 0)))],[(34304,.box [(.c (.int .i64 0)),(.c (.int .i64 0)),(.c (.int .i64 0)),(.c (.int .i64 0)),(xo 34309)]),(34309,.AV 74 false (.sl 73 Tq0 .nil))]⟩)])]⟩
def Jf (N:Nat):Sig:=.of [Sq2,Sq0,Ae] [Sq3,AZ] (fun a=>FY N a.1 a.2.1 a.2.2)
theorem Lp (N:Nat):Ad 18 (Jf N):=Ah (Ag [(51,OL N)] YC) Z9 Tryz.f18 N (Ac ⟨VM N,trivial⟩)
end
noncomputable section
def Zg:List (Nat×Nrm):=[(7,⟨[],[],[],[],[]⟩),(21,⟨[3,34],[],[],[],[]⟩),(46,⟨[66,67,68],[],[],[],[]⟩)]
def bF:Lk:=⟨[(21,⟨[(3,.c (.c (.ptr 33536 0))),(34,.c xb)],[(33536,.box [(xl Tq2),xb,xb,x64,xb])]⟩)],[(46,⟨[(66,.i),(67,.i),(68,.c x64)],[]⟩,[(1,⟨[],[]⟩)])]⟩
def PV (N:Nat):Sig:=.of [Sq2] [Ae] (fun a=>TU N a)
theorem WO (N:Nat):Ad 37 (PV N):=Ah (Ag [(87,GM N)] Zg [] [] [] [14,18,19,23,24,28,29,33,44,46,49,52,53,54]) bF Tryz.f37 N (Ac ⟨G9 N,trivial⟩)
def TN:List (Nat×Nrm):=[(3,⟨[],[],[],[],[]⟩),(10,⟨[6,7,8],[],[],[],[]⟩)]
def UQ:Lk:=⟨[],[(10,⟨[(6,.i),(7,.i),(8,.c x64)],[]⟩,[(0,⟨[],[]⟩)])]⟩
def JX (N:Nat):Sig:=.of [.cell false (.sl 85 Tq2)] [Ae] (fun a=>Nc N a)
theorem QY (N:Nat):Ad 152 (JX N):=Ah (Ag [(87,GM N)] TN) UQ Tryz.f152 N (Ac ⟨G9 N,trivial⟩)
def I9 (N:Nat):Sig:=.of [Abe,AZ] [Aj,Ae] (fun a=>KA N a.1 a.2)
theorem IY (N:Nat):Ad 134 (I9 N):=Ah (Ag [(87,GM N),(136,EM N),(79,Mc N)] []) ⟨[],[]⟩ Tryz.f134 N (Ac ⟨G9 N,DY N,OA N,trivial⟩)
def merkle_Tree_Key_S (N:Nat):Sig:=.of [Sq9] [GY] (fun a=>merkle_Tree_Key N a)
theorem KI (N:Nat):Ad 67 (merkle_Tree_Key_S N):=Ah (Ag [(119,merkle_Tree_valid_S N),(120,N7 N),(121,LM N)] []) ⟨[],[]⟩ Tryz.f67 N (Ac ⟨Gj N,Uy N,Ti N,trivial⟩)
def iQ:List (Nat×Nrm):=[(29,⟨[1,2,4,6,11,13],[],[],[],[]⟩),(53,⟨[1,4,6],[],[(some 34304,2,(.sl 73 Tq0 .nil))],[],[]⟩)]
def nM:Lk:=⟨[(29,⟨[(1,.i),(2,.c (.c (.ptr 33280 0))),(4,.c (.c (.ptr 33792 0))),(6,.c (.c (.ptr 34304 0))),(11,.i),(13,.c xb)],[(33280,.box [x64,xs,xs]),(33792,.box [(.c (.int .i64 0)),(.c (.str ([]:Bs))),(xo 33795)]),(33795,.AV 74 false (.sl 73 Tq0 .nil)),(34304,.box [(.c (.int .i64 0)),(.c (.str ([]:Bs))),(xo 34307)]),(34307,.AV 74 false (.sl 73 Tq0 .nil))]⟩),(53,⟨[(1,.i),(4,.c (.c (.ptr 33792 0))),(6,.c (.c (.ptr 34304 0)))],[(33792,.box [(.c (.int .i64 0)),(.c (.str ([]:Bs))),(xo 33795)]),(33795,.AV 74 false (.sl 73 Tq0 .nil)),(34304,.box [x64,xs,(xl (.sl 73 Tq0 .nil))])]⟩)],[]⟩
def Ul (N:Nat):Sig:=.of [GY,AZ] [Abe,Ae] (fun a=>XY N a.1 a.2)
theorem Zq (N:Nat):Ad 314 (Ul N):=Ah (Ag [(107,LZ N),(87,GM N)] iQ) nM Tryz.f314 N (Ac ⟨O9 N,G9 N,trivial⟩)
def X0 (N:Nat):Sig:=.of [Sq2,GY] [Ae] (fun a=>Ko N a.1 a.2)
theorem fU (N:Nat):Ad 27 (X0 N):=Ah (Ag [(65,RS N)] []) ⟨[],[]⟩ Tryz.f27 N (Ac ⟨Yz N,trivial⟩)
def xW:List (Nat×Nrm):=[(7,⟨[2,3],[],[],[(33652,1036864),(1020480,1036864)],[1036864]⟩),(17,⟨[0,2,3],[],[],[],[]⟩),(25,⟨[0,2,3],[],[],[],[]⟩),(33,⟨[0,2,3],[],[],[],[]⟩),(69,⟨[0,2,3],[],[(some 33536,9,Tq2)],[],[]⟩),(77,⟨[0,2,3],[],[(some 33536,14,Tq3)],[],[]⟩),(82,⟨[0,2,3,4],[],[],[(33652,1020480),(69632,1020480),(1032768,1020480)],[1020480]⟩),(101,⟨[0,2,3,4,5],[],[],[(33652,1024576),(1020480,1024576)],[1024576]⟩),(109,⟨[0,2,3,4,5],[],[],[(33652,1028672),(1024576,1028672)],[1028672]⟩),(117,⟨[0,2,3,4,5],[],[],[(33652,1032768),(1028672,1032768)],[1032768]⟩)]
def Aaw:Lk:=⟨[(17,⟨[(0,.c (.c (.ptr 0 0))),(2,.c (.c (.ptr 33280 0))),(3,.c (.c (.ptr 33536 0)))],[(0,.box [(xl (.int .i64 .nil)),x64]),(33280,.box [(.c (.str ([]:Bs))),(.c (.str ([]:Bs))),(xo 33283),(.c (.int .i64 0)),(.c (.int .i64 0)),(.c (.int .i64 0)),(.c (.int .i64 0)),(.c (.str ([]:Bs))),(.c (.bool false)),(xo 33290),(.c (.bool false)),(.c (.bool false)),(.c (.int .i64 0)),(.c (.bool false)),(xo 33295),(xo 33296),(.c (.str ([]:Bs)))]),(33283,.AV 74 false (.sl 73 Tq0 .nil)),(33290,.AV 85 false Tq2),(33295,.AV 134 false Tq3),(33296,.AV 35 false Tq1),(33536,.box [(.c (.str ([]:Bs))),(.c (.str ([]:Bs))),(xl (.sl 73 Tq0 .nil)),x64,x64,x64,(.c (.int .i64 (-1))),(.c (.str ([]:Bs))),(.c (.bool false)),(xo 33646),(.c (.bool false)),(.c (.bool false)),(.c (.int .i64 0)),(.c (.bool false)),(xo 33651),(xo 33652),(.c (.str ([]:Bs)))]),(33646,.AV 85 false Tq2),(33651,.AV 134 false Tq3),(33652,.AV 35 false Tq1)]⟩),(25,⟨[(0,.c (.c (.ptr 0 0))),(2,.c (.c (.ptr 33280 0))),(3,.c (.c (.ptr 33536 0)))],[(0,.box [(xl (.int .i64 .nil)),x64]),(33280,.box [(.c (.str ([]:Bs))),(.c (.str ([]:Bs))),(xo 33283),(.c (.int .i64 0)),(.c (.int .i64 0)),(.c (.int .i64 0)),(.c (.int .i64 0)),(.c (.str ([]:Bs))),(.c (.bool false)),(xo 33290),(.c (.bool false)),(.c (.bool false)),(.c (.int .i64 0)),(.c (.bool false)),(xo 33295),(xo 33296),(.c (.str ([]:Bs)))]),(33283,.AV 74 false (.sl 73 Tq0 .nil)),(33290,.AV 85 false Tq2),(33295,.AV 134 false Tq3),(33296,.AV 35 false Tq1),(33536,.box [(.c (.str ([]:Bs))),(.c (.str ([]:Bs))),(xl (.sl 73 Tq0 .nil)),x64,x64,x64,x64,(.c (.str ([]:Bs))),(.c (.bool false)),(xo 33646),(.c (.bool false)),(.c (.bool false)),(.c (.int .i64 0)),(.c (.bool false)),(xo 33651),(xo 33652),(.c (.str ([]:Bs)))]),(33646,.AV 85 false Tq2),(33651,.AV 134 false Tq3),(33652,.AV 35 false Tq1)]⟩),(33,⟨[(0,.c (.c (.ptr 0 0))),(2,.c (.c (.ptr 33280 0))),(3,.c (.c (.ptr 33536 0)))],[(0,.box [(xl (.int .i64 .nil)),x64]),(33280,.box [(.c (.str ([]:Bs))),(.c (.str ([]:Bs))),(xo 33283),(.c (.int .i64 0)),(.c (.int .i64 0)),(.c (.int .i64 0)),(.c (.int .i64 0)),(.c (.str ([]:Bs))),(.c (.bool false)),(xo 33290),(.c (.bool false)),(.c (.bool false)),(.c (.int .i64 0)),(.c (.bool false)),(xo 33295),(xo 33296),(.c (.str ([]:Bs)))]),(33283,.AV 74 false (.sl 73 Tq0 .nil)),(33290,.AV 85 false Tq2),(33295,.AV 134 false Tq3),(33296,.AV 35 false Tq1),(33536,.box [(.c (.str ([]:Bs))),(.c (.str ([]:Bs))),(xl (.sl 73 Tq0 .nil)),x64,x64,x64,x64,xs,(.c (.bool false)),(xo 33646),(.c (.bool false)),(.c (.bool false)),(.c (.int .i64 0)),(.c (.bool false)),(xo 33651),(xo 33652),(.c (.str ([]:Bs)))]),(33646,.AV 85 false Tq2),(33651,.AV 134 false Tq3),(33652,.AV 35 false Tq1)]⟩),(69,⟨[(0,.c (.c (.ptr 0 0))),(2,.c (.c (.ptr 33280 0))),(3,.c (.c (.ptr 33536 0)))],[(0,.box [(xl (.int .i64 .nil)),x64]),(33280,.box [(.c (.str ([]:Bs))),(.c (.str ([]:Bs))),(xo 33283),(.c (.int .i64 0)),(.c (.int .i64 0)),(.c (.int .i64 0)),(.c (.int .i64 0)),(.c (.str ([]:Bs))),(.c (.bool false)),(xo 33290),(.c (.bool false)),(.c (.bool false)),(.c (.int .i64 0)),(.c (.bool false)),(xo 33295),(xo 33296),(.c (.str ([]:Bs)))]),(33283,.AV 74 false (.sl 73 Tq0 .nil)),(33290,.AV 85 false Tq2),(33295,.AV 134 false Tq3),(33296,.AV 35 false Tq1),(33536,.box [(.c (.str ([]:Bs))),(.c (.str ([]:Bs))),(xl (.sl 73 Tq0 .nil)),x64,x64,x64,x64,xs,xb,(xl Tq2),xb,xb,x64,xb,(xo 33651),(xo 33652),(.c (.str ([]:Bs)))]),(33651,.AV 134 false Tq3),(33652,.AV 35 false Tq1)]⟩),(77,⟨[(0,.c (.c (.ptr 0 0))),(2,.c (.c (.ptr 33280 0))),(3,.c (.c (.ptr 33536 0)))],[(0,.box [(xl (.int .i64 .nil)),x64]),(33280,.box [(.c (.str ([]:Bs))),(.c (.str ([]:Bs))),(xo 33283),(.c (.int .i64 0)),(.c (.int .i64 0)),(.c (.int .i64 0)),(.c (.int .i64 0)),(.c (.str ([]:Bs))),(.c (.bool false)),(xo 33290),(.c (.bool false)),(.c (.bool false)),(.c (.int .i64 0)),(.c (.bool false)),(xo 33295),(xo 33296),(.c (.str ([]:Bs)))]),(33283,.AV 74 false (.sl 73 Tq0 .nil)),(33290,.AV 85 false Tq2),(33295,.AV 134 false Tq3),(33296,.AV 35 false Tq1),(33536,.box [(.c (.str ([]:Bs))),(.c (.str ([]:Bs))),(xl (.sl 73 Tq0 .nil)),x64,x64,x64,x64,xs,xb,(xl Tq2),xb,xb,x64,xb,(xl Tq3),(xo 33652),(.c (.str ([]:Bs)))]),(33652,.AV 35 false Tq1)]⟩),(101,⟨[(0,.c (.c (.ptr 0 0))),(2,.c (.c (.ptr 33280 0))),(3,.c (.c (.ptr 33536 0))),(4,.i),(5,.c (.c (.ptr 34048 0)))],[(0,.box [(xl (.int .i64 .nil)),x64]),(33280,.box [(.c (.str ([]:Bs))),(.c (.str ([]:Bs))),(xo 33283),(.c (.int .i64 0)),(.c (.int .i64 0)),(.c (.int .i64 0)),(.c (.int .i64 0)),(.c (.str ([]:Bs))),(.c (.bool false)),(xo 33290),(.c (.bool false)),(.c (.bool false)),(.c (.int .i64 0)),(.c (.bool false)),(xo 33295),(xo 33296),(.c (.str ([]:Bs)))]),(33283,.AV 74 false (.sl 73 Tq0 .nil)),(33290,.AV 85 false Tq2),(33295,.AV 134 false Tq3),(33296,.AV 35 false Tq1),(33536,.box [(.c (.str ([]:Bs))),(.c (.str ([]:Bs))),(xl (.sl 73 Tq0 .nil)),x64,x64,x64,x64,xs,xb,(xl Tq2),xb,xb,x64,xb,(xl Tq3),(xo 1024576),(.c (.str ([]:Bs)))]),(34048,.box [x64,x64,x64,x64,(xl (.sl 73 Tq0 .nil))]),(1024576,.arr 35 true Tq1)]⟩),(109,⟨[(0,.c (.c (.ptr 0 0))),(2,.c (.c (.ptr 33280 0))),(3,.c (.c (.ptr 33536 0))),(4,.i),(5,.c (.c (.ptr 34048 0)))],[(0,.box [(xl (.int .i64 .nil)),x64]),(33280,.box [(.c (.str ([]:Bs))),(.c (.str ([]:Bs))),(xo 33283),(.c (.int .i64 0)),(.c (.int .i64 0)),(.c (.int .i64 0)),(.c (.int .i64 0)),(.c (.str ([]:Bs))),(.c (.bool false)),(xo 33290),(.c (.bool false)),(.c (.bool false)),(.c (.int .i64 0)),(.c (.bool false)),(xo 33295),(xo 33296),(.c (.str ([]:Bs)))]),(33283,.AV 74 false (.sl 73 Tq0 .nil)),(33290,.AV 85 false Tq2),(33295,.AV 134 false Tq3),(33296,.AV 35 false Tq1),(33536,.box [(.c (.str ([]:Bs))),(.c (.str ([]:Bs))),(xl (.sl 73 Tq0 .nil)),x64,x64,x64,x64,xs,xb,(xl Tq2),xb,xb,x64,xb,(xl Tq3),(xo 1028672),(.c (.str ([]:Bs)))]),(34048,.box [x64,x64,x64,x64,(xl (.sl 73 Tq0 .nil))]),(1028672,.arr 35 true Tq1)]⟩),(117,⟨[(0,.c (.c (.ptr 0 0))),(2,.c (.c (.ptr 33280 0))),(3,.c (.c (.ptr 33536 0))),(4,.i),(5,.c (.c (.ptr 34048 0)))],[(0,.box [(xl (.int .i64 .nil)),x64]),(33280,.box [(.c (.str ([]:Bs))),(.c (.str ([]:Bs))),(xo 33283),(.c (.int .i64 0)),(.c (.int .i64 0)),(.c (.int .i64 0)),(.c (.int .i64 0)),(.c (.str ([]:Bs))),(.c (.bool false)),(xo 33290),(.c (.bool false)),(.c (.bool false)),(.c (.int .i64 0)),(.c (.bool false)),(xo 33295),(xo 33296),(.c (.str ([]:Bs)))]),(33283,.AV 74 false (.sl 73 Tq0 .nil)),(33290,.AV 85 false Tq2),(33295,.AV 134 false Tq3),(33296,.AV 35 false Tq1),(33536,.box [(.c (.str ([]:Bs))),(.c (.str ([]:Bs))),(xl (.sl 73 Tq0 .nil)),x64,x64,x64,x64,xs,xb,(xl Tq2),xb,xb,x64,xb,(xl Tq3),(xo 1032768),(.c (.str ([]:Bs)))]),(34048,.box [x64,x64,x64,x64,(xl (.sl 73 Tq0 .nil))]),(1032768,.arr 35 true Tq1)]⟩)],[(82,⟨[(0,.c (.c (.ptr 0 0))),(2,.c (.c (.ptr 33280 0))),(3,.c (.c (.ptr 33536 0))),(4,.c x64)],[(0,.box [(xl (.int .i64 .nil)),x64]),(33280,.box [(.c (.str ([]:Bs))),(.c (.str ([]:Bs))),(xo 33283),(.c (.int .i64 0)),(.c (.int .i64 0)),(.c (.int .i64 0)),(.c (.int .i64 0)),(.c (.str ([]:Bs))),(.c (.bool false)),(xo 33290),(.c (.bool false)),(.c (.bool false)),(.c (.int .i64 0)),(.c (.bool false)),(xo 33295),(xo 33296),(.c (.str ([]:Bs)))]),(33283,.AV 74 false (.sl 73 Tq0 .nil)),(33290,.AV 85 false Tq2),(33295,.AV 134 false Tq3),(33296,.AV 35 false Tq1),(33536,.box [(.c (.str ([]:Bs))),(.c (.str ([]:Bs))),(xl (.sl 73 Tq0 .nil)),x64,x64,x64,x64,xs,xb,(xl Tq2),xb,xb,x64,xb,(xl Tq3),(xo 1020480),(.c (.str ([]:Bs)))]),(1020480,.arr 35 true Tq1)]⟩,[(1,⟨[(2,.c (.c (.ptr 33280 0))),(3,.c (.c (.ptr 33536 0)))],[(0,.box [(xl (.int .i64 .nil)),x64]),(33280,.box [(.c (.str ([]:Bs))),(.c (.str ([]:Bs))),(xo 33283),(.c (.int .i64 0)),(.c (.int .i64 0)),(.c (.int .i64 0)),(.c (.int .i64 0)),(.c (.str ([]:Bs))),(.c (.bool false)),(xo 33290),(.c (.bool false)),(.c (.bool false)),(.c (.int .i64 0)),(.c (.bool false)),(xo 33295),(xo 33296),(.c (.str ([]:Bs)))]),(33283,.AV 74 false (.sl 73 Tq0 .nil)),(33290,.AV 85 false Tq2),(33295,.AV 134 false Tq3),(33296,.AV 35 false Tq1),(33536,.box [(.c (.str ([]:Bs))),(.c (.str ([]:Bs))),(xl (.sl 73 Tq0 .nil)),x64,x64,x64,x64,xs,xb,(xl Tq2),xb,xb,x64,xb,(xl Tq3),(xo 1036864),(.c (.str ([]:Bs)))]),(1036864,.arr 35 true Tq1)]⟩)])]⟩
def ZW (N:Nat):Sig:=.of [Xg] [Sq2] (fun a=>RP N a)
theorem nY (N:Nat):Ad 15 (ZW N):=Ah (Ag [(16,CZ N),(8,Fg N),(46,ZZ N),(47,MC N),(48,Wx N),(18,Jf N)] xW) Aaw Tryz.f15 N (Ac ⟨CV N,F5 N,o6 N,OD N,dG N,Lp N,trivial⟩)
end
noncomputable section
def TP:List (Nat×Nrm):=[(13,⟨[1,4],[],[],[],[]⟩)]
def UR:Lk:=⟨[(13,⟨[(1,.c (.c (.ptr 33024 0))),(4,.c xb)],[(33024,.box [(xl Tq2),x64,xb,(xl (.sl 73 Tq0 .nil))])]⟩)],[]⟩
def JY (N:Nat):Sig:=.of [AfY] [Ae] (fun a=>Nh N a)
theorem QZ (N:Nat):Ad 88 (JY N):=Ah (Ag [(152,JX N),(35,EE N)] TP) UR Tryz.f88 N (Ac ⟨QY N,Eh N,trivial⟩)
def gG:List (Nat×Nrm):=[(17,⟨[0,4,5,7],[([7],183,Tq4,1000000)],[],[(38400,1000000)],[]⟩),(25,⟨[0,4,5,7],[],[],[(41984,1004096),(1000000,1004096)],[]⟩),(37,⟨[0,4,7],[],[],[(47360,1008192),(1004096,1008192)],[]⟩),(49,⟨[0,4,9],[],[],[],[]⟩)]
def lZ:Lk:=⟨[(17,⟨[(0,.c (.c (.ptr 0 0))),(4,.c (.c (.ptr 33792 0))),(5,.c (.c (.ptr 34048 0))),(7,.c (xo 1000000))],[(0,.box [xb]),(33792,.box [x64,x64,x64,x64,(xl (.sl 73 Tq0 .nil))]),(34048,.box [(xl (.sl 73 Tq0 .nil))]),(1000000,.arr 183 false Tq4)]⟩),(25,⟨[(0,.c (.c (.ptr 0 0))),(4,.c (.c (.ptr 33792 0))),(5,.c (.c (.ptr 34048 0))),(7,.c (xo 1004096))],[(0,.box [xb]),(33792,.box [x64,x64,x64,x64,(xl (.sl 73 Tq0 .nil))]),(34048,.box [(xl (.sl 73 Tq0 .nil))]),(1004096,.arr 183 false Tq4)]⟩),(37,⟨[(0,.c (.c (.ptr 0 0))),(4,.c (.c (.ptr 33792 0))),(7,.c (xo 1008192))],[(0,.box [xb]),(33792,.box [x64,x64,x64,x64,(xl (.sl 73 Tq0 .nil))]),(1008192,.arr 183 false Tq4)]⟩),(49,⟨[(0,.c (.c (.ptr 0 0))),(4,.c (.c (.ptr 33792 0))),(9,.c xs)],[(0,.box [xb]),(33792,.box [x64,x64,x64,x64,(xl (.sl 73 Tq0 .nil))])]⟩)],[]⟩
def Ub (N:Nat):Sig:=.of [.box [(false,.bool)],Sq3,Sq0] [Aj] (fun a=>X8 N a.1 a.2.1 a.2.2)
theorem Zk (N:Nat):Ad 74 (Ub N):=Ah (Ag [(133,Je N),(81,BZ N),(80,NV N),(78,CU N),(91,Jq N),(134,I9 N),(75,D8 N),(82,Qn N),(76,G7 N)] gG) lZ Tryz.f74 N (Ac ⟨Lj N,BO N,Qa N,CP N,J4 N,IY N,Dw N,RG N,Hf N,trivial⟩)
def WS:List (Nat×Nrm):=[(3,⟨[5],[],[],[],[]⟩),(26,⟨[5,16,17,18],[],[],[],[]⟩)]
def Ya:Lk:=⟨[],[(26,⟨[(5,.c xs),(16,.i),(17,.i),(18,.c x64)],[]⟩,[(0,⟨[(5,.c xs)],[]⟩)])]⟩
def Ig (N:Nat):Sig:=.of [.cell false (.sl 85 Tq2)] [Aj,Ae] (fun a=>J5 N a)
theorem JJ (N:Nat):Ad 201 (Ig N):=Ah (Ag [(266,Og N),(134,I9 N)] WS) Ya Tryz.f201 N (Ac ⟨Qq N,IY N,trivial⟩)
def merkle_Tree_Sign_ns:List (Nat×Nrm):=[(3,⟨[10],[],[],[],[]⟩),(42,⟨[0,10,11,12],[],[],[],[]⟩)]
def merkle_Tree_Sign_L:Lk:=⟨[],[(42,⟨[(0,.c (.c (.ptr 0 0))),(10,.c xs),(11,.c x64),(12,.c x64)],[(0,.box [(.h (.ln (.sl 9 (.str .nil) .nil))),xs,xs,x64])]⟩,[(0,⟨[(10,.c xs)],[(0,.box [(.h (.ln (.sl 9 (.str .nil) .nil))),xs,xs,x64])]⟩)])]⟩
def merkle_Tree_Sign_S (N:Nat):Sig:=.of [Sq9,Ae,Aj] [Aj,Ae] (fun a=>merkle_Tree_Sign N a.1 a.2.1 a.2.2)
theorem Ux (N:Nat):Ad 102 (merkle_Tree_Sign_S N):=Ah (Ag [(119,merkle_Tree_valid_S N),(99,merkle_Tree_Leaves_S N),(67,merkle_Tree_Key_S N),(117,merkle_digest_S N),(160,ots_Sign_S N),(161,merkle_b4_S N)] merkle_Tree_Sign_ns [] [] [] [] [] [(67,[(0,1),(0,2),(0,3)])]) merkle_Tree_Sign_L Tryz.f102 N (Ac ⟨Gj N,F8 N,KI N,N8 N,tJ N,MG N,trivial⟩)
def WR:List (Nat×Nrm):=[(3,⟨[7],[([7],85,Tq2,1004096)],[],[(1000000,1004096)],[]⟩),(38,⟨[7,26,27,28],[([7],85,Tq2,1000000)],[],[(43776,1000000)],[]⟩)]
def XZ:Lk:=⟨[],[(38,⟨[(7,.c (xo 1000000)),(26,.i),(27,.i),(28,.c x64)],[(1000000,.arr 85 false Tq2)]⟩,[(0,⟨[(7,.c (xo 1004096))],[(1004096,.arr 85 false Tq2)]⟩)])]⟩
def FP (N:Nat):Sig:=.of [Aj] [.cell false (.sl 85 Tq2),Ae] (fun a=>Fa N a)
theorem Gw (N:Nat):Ad 289 (FP N):=Ah (Ag [(163,EL N),(266,Og N),(314,Ul N)] WR) XZ Tryz.f289 N (Ac ⟨DX N,Qq N,Zq N,trivial⟩)
def LP (N:Nat):Sig:=.of [aX] [GY] (fun a=>EI N a)
theorem Tz (N:Nat):Ad 28 (LP N):=Ah (Ag [(66,EK N),(67,merkle_Tree_Key_S N)] [] [] [] [] [] [] [(67,[(0,1),(0,2),(0,3)])]) ⟨[],[]⟩ Tryz.f28 N (Ac ⟨F9 N,KI N,trivial⟩)
end
noncomputable section
def Sz:List (Nat×Nrm):=[(3,⟨[],[],[],[],[]⟩),(18,⟨[9,10,11],[],[],[],[]⟩)]
def TM:Lk:=⟨[],[(18,⟨[(9,.i),(10,.i),(11,.c x64)],[]⟩,[(0,⟨[],[]⟩)])]⟩
def Ey (N:Nat):Sig:=.of [.cell false (.sl 134 Tq3)] [Ae] (fun a=>Fv N a)
theorem EY (N:Nat):Ad 38 (Ey N):=Ah (Ag [(88,JY N)] Sz) TM Tryz.f38 N (Ac ⟨QZ N,trivial⟩)
def gI:List (Nat×Nrm):=[(17,⟨[0,3,5,6],[],[],[],[]⟩),(25,⟨[0,3,5,6],[],[],[],[]⟩)]
def mD:Lk:=⟨[(17,⟨[(0,.c (.c (.ptr 0 0))),(3,.c (.c (.ptr 33536 0))),(5,.c xs),(6,.i)],[(0,.box [xb]),(33536,.box [(xl Tq2),xb,xb,x64,xb])]⟩),(25,⟨[(0,.c (.c (.ptr 0 0))),(3,.c (.c (.ptr 33536 0))),(5,.i),(6,.c xs)],[(0,.box [xb]),(33536,.box [(xl Tq2),xb,xb,x64,xb])]⟩)],[]⟩
def Uc (N:Nat):Sig:=.of [.box [(false,.bool)],Agb] [Aj] (fun a=>X9 N a.1 a.2)
theorem Zl (N:Nat):Ad 143 (Uc N):=Ah (Ag [(201,Ig N),(78,CU N),(81,BZ N),(202,Le N),(203,O8 N),(75,D8 N)] gI) mD Tryz.f143 N (Ac ⟨JJ N,CP N,BO N,NG N,Vh N,Dw N,trivial⟩)
def L8 (N:Nat):Sig:=.of [aX,Aj] [Aj,Ae] (fun a=>Es N a.1 a.2)
theorem Rl (N:Nat):Ad 55 (L8 N):=Ah (Ag [(66,EK N),(101,L6 N),(102,merkle_Tree_Sign_S N)] []) ⟨[],[]⟩ Tryz.f55 N (Ac ⟨F9 N,Rk N,Ux N,trivial⟩)
def Rx (N:Nat):Sig:=.of [Aj] [Sq0,Ae] (fun a=>We N a)
theorem X5 (N:Nat):Ad 287 (Rx N):=Ah (Ag [(103,DW N),(289,FP N)] []) ⟨[],[]⟩ Tryz.f287 N (Ac ⟨Gu N,Gw N,trivial⟩)
def gB:List (Nat×Nrm):=[(53,⟨[2,4,5,6],[],[(some 34048,0,Tq2)],[],[]⟩),(105,⟨[2,4,5,6],[],[],[],[]⟩)]
def lY:Lk:=⟨[(53,⟨[(2,.c (.c (.ptr 33280 0))),(4,.c (.c (.ptr 33792 0))),(5,.c (.c (.ptr 34048 0))),(6,.c (.c (.ptr 36864 0)))],[(33280,.box [(xo 33281),(.c (.bool false)),(.c (.bool false)),(.c (.int .i64 0)),(.c (.bool false))]),(33281,.AV 85 false Tq2),(33792,.box [(xo 33793),(.c (.bool false)),(.c (.bool false)),(.c (.int .i64 0)),(.c (.bool false))]),(33793,.AV 85 false Tq2),(34048,.box [(xl Tq2),(.c (.bool false)),(.c (.bool false)),(.c (.int .i64 0)),(.c (.bool false))]),(36864,.box [(xl Tq5)])]⟩),(105,⟨[(2,.c (.c (.ptr 33280 0))),(4,.c (.c (.ptr 33792 0))),(5,.c (.c (.ptr 34048 0))),(6,.c (.c (.ptr 36864 0)))],[(33280,.box [(xo 33281),(.c (.bool false)),(.c (.bool false)),(.c (.int .i64 0)),(.c (.bool false))]),(33281,.AV 85 false Tq2),(33792,.box [(xo 33793),(.c (.bool false)),(.c (.bool false)),(.c (.int .i64 0)),(.c (.bool false))]),(33793,.AV 85 false Tq2),(34048,.box [(xl Tq2),xb,xb,x64,(.c (.bool false))]),(36864,.box [(xl Tq5)])]⟩)],[]⟩
def TW (N:Nat):Sig:=.of [Aj] [Agb,Ae] (fun a=>X6 N a)
theorem Zi (N:Nat):Ad 243 (TW N):=Ah (Ag [(109,Eg N),(103,DW N),(289,FP N),(290,O7 N),(291,QK N),(61,Dj N)] gB [(56,Iz N)]) lY Tryz.f243 N (Ac ⟨Ec N,Gu N,Gw N,Vg N,RZ N,Df N,trivial⟩ ⟨Ku N,trivial⟩)
def SB:List (Nat×Nrm):=[(45,⟨[0,2,4,5],[],[(some 34048,0,Tq2)],[],[]⟩),(73,⟨[0,2,4,5],[],[],[],[]⟩),(105,⟨[0,2,4,5],[],[(some 34048,3,(.sl 73 Tq0 .nil))],[],[]⟩)]
def TQ:Lk:=⟨[(45,⟨[(0,.c (.c (.ptr 0 0))),(2,.c (.c (.ptr 33280 0))),(4,.c (.c (.ptr 33792 0))),(5,.c (.c (.ptr 34048 0)))],[(0,.box [(xl Tq5)]),(33280,.box [(xo 33281),(.c (.int .i64 0)),(.c (.bool false)),(xo 33284)]),(33281,.AV 85 false Tq2),(33284,.AV 74 false (.sl 73 Tq0 .nil)),(33792,.box [(xo 33793),(.c (.int .i64 0)),(.c (.bool false)),(xo 33796)]),(33793,.AV 85 false Tq2),(33796,.AV 74 false (.sl 73 Tq0 .nil)),(34048,.box [(xl Tq2),(.c (.int .i64 0)),(.c (.bool false)),(xo 34052)]),(34052,.AV 74 false (.sl 73 Tq0 .nil))]⟩),(73,⟨[(0,.c (.c (.ptr 0 0))),(2,.c (.c (.ptr 33280 0))),(4,.c (.c (.ptr 33792 0))),(5,.c (.c (.ptr 34048 0)))],[(0,.box [(xl Tq5)]),(33280,.box [(xo 33281),(.c (.int .i64 0)),(.c (.bool false)),(xo 33284)]),(33281,.AV 85 false Tq2),(33284,.AV 74 false (.sl 73 Tq0 .nil)),(33792,.box [(xo 33793),(.c (.int .i64 0)),(.c (.bool false)),(xo 33796)]),(33793,.AV 85 false Tq2),(33796,.AV 74 false (.sl 73 Tq0 .nil)),(34048,.box [(xl Tq2),x64,(.c (.bool false)),(xo 34052)]),(34052,.AV 74 false (.sl 73 Tq0 .nil))]⟩),(105,⟨[(0,.c (.c (.ptr 0 0))),(2,.c (.c (.ptr 33280 0))),(4,.c (.c (.ptr 33792 0))),(5,.c (.c (.ptr 34048 0)))],[(0,.box [(xl Tq5)]),(33280,.box [(xo 33281),(.c (.int .i64 0)),(.c (.bool false)),(xo 33284)]),(33281,.AV 85 false Tq2),(33284,.AV 74 false (.sl 73 Tq0 .nil)),(33792,.box [(xo 33793),(.c (.int .i64 0)),(.c (.bool false)),(xo 33796)]),(33793,.AV 85 false Tq2),(33796,.AV 74 false (.sl 73 Tq0 .nil)),(34048,.box [(xl Tq2),x64,xb,(xl (.sl 73 Tq0 .nil))])]⟩)],[]⟩
def JB (N:Nat):Sig:=.of [IU] [AfY,Ae] (fun a=>LG N a)
theorem PR (N:Nat):Ad 292 (JB N):=Ah (Ag [(109,Eg N),(103,DW N),(289,FP N),(291,QK N),(61,Dj N)] SB) TQ Tryz.f292 N (Ac ⟨Ec N,Gu N,Gw N,RZ N,Df N,trivial⟩)
end
noncomputable section
def wF:List (Nat×Nrm):=[(3,⟨[],[],[],[],[]⟩),(94,⟨[1,88,89],[],[],[],[]⟩)]
def Aaf:Lk:=⟨[],[(94,⟨[(1,.c (.c (.ptr 33024 0))),(88,.i),(89,.c x64)],[(33024,.box [xs,xs,(xl (.sl 73 Tq0 .nil)),x64,x64,x64,x64,xs,xb,(xl Tq2),xb,xb,x64,xb,(xl Tq3),(xl Tq1),xs])]⟩,[(0,⟨[],[]⟩)])]⟩
def SC (N:Nat):Sig:=.of [Sq2] [Ae] (fun a=>Xw N a)
theorem TR (N:Nat):Ad 10 (SC N):=Ah (Ag [(35,EE N),(36,Vb N),(37,PV N),(38,Ey N),(39,PU N)] wF [] [] [] [40,45,46,50,56,57]) Aaf Tryz.f10 N (Ac ⟨Eh N,Wj N,WO N,EY N,WN N,trivial⟩)
def QX:List (Nat×Nrm):=[(3,⟨[5,6],[([6],9,(.str .nil),1016384)],[],[(1000000,1016384)],[]⟩),(38,⟨[5,6,22,23,24],[([6],9,(.str .nil),1000000)],[],[(54272,1000000)],[]⟩),(57,⟨[5,6,8,9,22,23,24],[([6],9,(.str .nil),1004096)],[],[(1000000,1004096)],[]⟩),(65,⟨[5,6,8,9,22,23,24],[([6],9,(.str .nil),1008192)],[],[(1004096,1008192)],[]⟩),(77,⟨[5,6,9,22,23,24],[([6],9,(.str .nil),1012288)],[],[(1008192,1012288)],[]⟩)]
def SA:Lk:=⟨[(57,⟨[(5,.c (.c (.ptr 38144 0))),(6,.c (xo 1004096)),(8,.c (.c (.ptr 34816 0))),(9,.c (xo 39936)),(22,.i),(23,.i),(24,.i)],[(34816,.box [(xl Tq2),x64,xb,(xl (.sl 73 Tq0 .nil))]),(38144,.box [xb]),(39936,.arr 9 false (.str .nil)),(1004096,.arr 9 false (.str .nil))]⟩),(65,⟨[(5,.c (.c (.ptr 38144 0))),(6,.c (xo 1008192)),(8,.c (.c (.ptr 34816 0))),(9,.c (xo 39936)),(22,.i),(23,.i),(24,.i)],[(34816,.box [(xl Tq2),x64,xb,(xl (.sl 73 Tq0 .nil))]),(38144,.box [xb]),(39936,.arr 9 false (.str .nil)),(1008192,.arr 9 false (.str .nil))]⟩),(77,⟨[(5,.c (.c (.ptr 38144 0))),(6,.c (xo 1012288)),(9,.c (xo 39936)),(22,.i),(23,.i),(24,.i)],[(38144,.box [xb]),(39936,.arr 9 false (.str .nil)),(1012288,.arr 9 false (.str .nil))]⟩)],[(38,⟨[(5,.c (.c (.ptr 38144 0))),(6,.c (xo 1000000)),(22,.i),(23,.i),(24,.c x64)],[(38144,.box [xb]),(1000000,.arr 9 false (.str .nil))]⟩,[(0,⟨[(5,.c (.c (.ptr 38144 0))),(6,.c (xo 1016384))],[(38144,.box [xb]),(1016384,.arr 9 false (.str .nil))]⟩)])]⟩
def Jh (N:Nat):Sig:=.of [.cell false (.sl 134 Tq3)] [Aj,Ae] (fun a=>JW N a)
theorem OZ (N:Nat):Ad 144 (Jh N):=Ah (Ag [(38,Ey N),(201,Ig N),(78,CU N),(81,BZ N),(202,Le N),(134,I9 N),(75,D8 N),(84,J3 N)] QX) SA Tryz.f144 N (Ac ⟨EY N,JJ N,CP N,BO N,NG N,IY N,Dw N,Ha N,trivial⟩)
def RD (N:Nat):Sig:=.of [Ahd,Abf] [Ae] (fun a=>Wl N a.1 a.2)
theorem XC (N:Nat):Ad 239 (RD N):=Ah (Ag [(242,NT N),(286,Wh N),(287,Rx N)] []) ⟨[],[]⟩ Tryz.f239 N (Ac ⟨PX N,bH N,X5 N,trivial⟩)
def QW:List (Nat×Nrm):=[(3,⟨[6],[([6],134,Tq3,1004096)],[],[(1000000,1004096)],[]⟩),(30,⟨[4,6],[([6],134,Tq3,1000000)],[],[(44032,1000000)],[]⟩)]
def S9:Lk:=⟨[],[(30,⟨[(4,.c (.c (.ptr 36096 0))),(6,.c (xo 1000000))],[(36096,.box [(xl Tq5)]),(1000000,.arr 134 false Tq3)]⟩,[(0,⟨[(6,.c (xo 1004096))],[(1004096,.arr 134 false Tq3)]⟩)])]⟩
def Jg (N:Nat):Sig:=.of [Aj] [.cell false (.sl 134 Tq3),Ae] (fun a=>JV N a)
theorem OY (N:Nat):Ad 244 (Jg N):=Ah (Ag [(167,IX N),(292,JB N),(38,Ey N)] QW [(56,Iz N),(168,Fz N)]) S9 Tryz.f244 N (Ac ⟨Kv N,PR N,EY N,trivial⟩ ⟨Ku N,JD N,trivial⟩)
end
noncomputable section
def TZ:List (Nat×Nrm):=[(17,⟨[0,3,5],[([5],183,Tq4,1000000)],[],[(37888,1000000)],[]⟩),(29,⟨[0,3,5],[],[],[(39936,1004096),(42752,1004096)],[]⟩),(37,⟨[0,3,5],[],[],[(45312,1008192),(1004096,1008192)],[]⟩)]
def UZ:Lk:=⟨[(17,⟨[(0,.c (.c (.ptr 0 0))),(3,.c (.c (.ptr 33536 0))),(5,.c (xo 1000000))],[(0,.box [xb]),(33536,.box [xs,xs,(xl (.sl 73 Tq0 .nil)),x64,x64,x64,x64,xs,xb,(xl Tq2),xb,xb,x64,xb,(xl Tq3),(xl Tq1),xs]),(1000000,.arr 183 false Tq4)]⟩),(29,⟨[(0,.c (.c (.ptr 0 0))),(3,.c (.c (.ptr 33536 0))),(5,.c (xo 1004096))],[(0,.box [xb]),(33536,.box [xs,xs,(xl (.sl 73 Tq0 .nil)),x64,x64,x64,x64,xs,xb,(xl Tq2),xb,xb,x64,xb,(xl Tq3),(xl Tq1),xs]),(1004096,.arr 183 false Tq4)]⟩),(37,⟨[(0,.c (.c (.ptr 0 0))),(3,.c (.c (.ptr 33536 0))),(5,.c (xo 1008192))],[(0,.box [xb]),(33536,.box [xs,xs,(xl (.sl 73 Tq0 .nil)),x64,x64,x64,x64,xs,xb,(xl Tq2),xb,xb,x64,xb,(xl Tq3),(xl Tq1),xs]),(1008192,.arr 183 false Tq4)]⟩)],[]⟩
def Kt (N:Nat):Sig:=.of [.box [(false,.bool)],Sq2] [.cell false (.sl 183 Tq4)] (fun a=>Np N a.1 a.2)
theorem Rh (N:Nat):Ad 83 (Kt N):=Ah (Ag [(81,BZ N),(75,D8 N),(76,G7 N),(143,Uc N),(144,Jh N),(78,CU N)] TZ) UZ Tryz.f83 N (Ac ⟨BO N,Dw N,Hf N,Zl N,OZ N,CP N,trivial⟩)
def X3:List (Nat×Nrm):=[(3,⟨[0,4,6,7],[],[],[],[]⟩),(66,⟨[0,4,6,7,57,58,59],[],[],[],[]⟩),(89,⟨[0,4,6,7],[],[],[],[]⟩)]
def Zh:Lk:=⟨[(89,⟨[(0,.c (.c (.ptr 0 0))),(4,.c (.c (.ptr 33792 0))),(6,.c (.c (.ptr 34304 0))),(7,.c (.c (.ptr 34560 0)))],[(0,.box [(xl Tq5)]),(33792,.box [(.c (.int .i64 0)),(.c (.int .i64 0)),(.c (.int .i64 0)),(.c (.int .i64 0)),(xo 33797)]),(33797,.AV 74 false (.sl 73 Tq0 .nil)),(34304,.box [(.c (.int .i64 0)),(.c (.int .i64 0)),(.c (.int .i64 0)),(.c (.int .i64 0)),(xo 34409)]),(34409,.AV 74 false (.sl 73 Tq0 .nil)),(34560,.box [x64,x64,x64,x64,(xl (.sl 73 Tq0 .nil))])]⟩)],[(66,⟨[(0,.c (.c (.ptr 0 0))),(4,.c (.c (.ptr 33792 0))),(6,.c (.c (.ptr 34304 0))),(7,.c (.c (.ptr 34560 0))),(57,.i),(58,.i),(59,.c x64)],[(0,.box [(xl Tq5)]),(33792,.box [(.c (.int .i64 0)),(.c (.int .i64 0)),(.c (.int .i64 0)),(.c (.int .i64 0)),(xo 33797)]),(33797,.AV 74 false (.sl 73 Tq0 .nil)),(34304,.box [(.c (.int .i64 0)),(.c (.int .i64 0)),(.c (.int .i64 0)),(.c (.int .i64 0)),(xo 34409)]),(34409,.AV 74 false (.sl 73 Tq0 .nil)),(34560,.box [x64,x64,x64,x64,(xl (.sl 73 Tq0 .nil))])]⟩,[(0,⟨[(0,.c (.c (.ptr 0 0))),(4,.c (.c (.ptr 33792 0))),(6,.c (.c (.ptr 34304 0))),(7,.c (.c (.ptr 34560 0)))],[(0,.box [(xl Tq5)]),(33792,.box [(.c (.int .i64 0)),(.c (.int .i64 0)),(.c (.int .i64 0)),(.c (.int .i64 0)),(xo 33797)]),(33797,.AV 74 false (.sl 73 Tq0 .nil)),(34304,.box [(.c (.int .i64 0)),(.c (.int .i64 0)),(.c (.int .i64 0)),(.c (.int .i64 0)),(xo 34409)]),(34409,.AV 74 false (.sl 73 Tq0 .nil)),(34560,.box [x64,x64,x64,x64,(xl (.sl 73 Tq0 .nil))])]⟩)])]⟩
def O6 (N:Nat):Sig:=.of [IU,Sq0] [Sq3,Ae] (fun a=>Ru N a.1 a.2)
theorem UY (N:Nat):Ad 169 (O6 N):=Ah (Ag [(50,LW N),(106,PY N),(108,Ve N),(109,Eg N),(170,Qm N),(239,RD N),(61,Dj N)] X3) Zh Tryz.f169 N (Ac ⟨Oz N,Ry N,Wn N,Ec N,RF N,XC N,Df N,trivial⟩)
def Ud (N:Nat):Sig:=.of [Aeg,Abf] [Ae] (fun a=>XD N a.1 a.2)
theorem Zm (N:Nat):Ad 171 (Ud N):=Ah (Ag [(241,Nl N),(242,NT N),(243,TW N),(244,Jg N)] []) ⟨[],[]⟩ Tryz.f171 N (Ac ⟨TV N,PX N,Zi N,OY N,trivial⟩)
end
noncomputable section
def Ab2:List (Nat×Nrm):=[(3,⟨[1,5,7],[([7],9,(.str .nil),1008192)],[],[(1004096,1008192)],[]⟩),(42,⟨[1,5,7,8,26,27,28],[([7],9,(.str .nil),1004096)],[],[(42496,1004096)],[]⟩),(65,⟨[1,5,6],[],[],[],[]⟩)]
def Adb:Lk:=⟨[(65,⟨[(1,.c (.c (.ptr 33024 0))),(5,.c (.c (.ptr 37376 0))),(6,.c xs)],[(33024,.box [xs,xs,(xl (.sl 73 Tq0 .nil)),x64,x64,x64,x64,xs,xb,(xl Tq2),xb,xb,x64,xb,(xl Tq3),(xl Tq1),xs]),(37376,.box [xb])]⟩)],[(42,⟨[(1,.c (.c (.ptr 33024 0))),(5,.c (.c (.ptr 37376 0))),(7,.c (xo 1004096)),(8,.c (.c (.ptr 34816 0))),(26,.i),(27,.i),(28,.c x64)],[(33024,.box [xs,xs,(xl (.sl 73 Tq0 .nil)),x64,x64,x64,x64,xs,xb,(xl Tq2),xb,xb,x64,xb,(xl Tq3),(xl Tq1),xs]),(34816,.box [(xl (.sl 73 Tq0 .nil))]),(37376,.box [xb]),(1004096,.arr 9 false (.str .nil))]⟩,[(0,⟨[(1,.c (.c (.ptr 33024 0))),(5,.c (.c (.ptr 37376 0))),(7,.c (xo 1008192))],[(33024,.box [xs,xs,(xl (.sl 73 Tq0 .nil)),x64,x64,x64,x64,xs,xb,(xl Tq2),xb,xb,x64,xb,(xl Tq3),(xl Tq1),xs]),(37376,.box [xb]),(1008192,.arr 9 false (.str .nil))]⟩)])]⟩
def Xy (N:Nat):Sig:=.of [Sq2] [Aj,Ae] (fun a=>TS N a)
theorem Xz (N:Nat):Ad 32 (Xy N):=Ah (Ag [(10,SC N),(74,Ub N),(75,D8 N),(76,G7 N),(77,Hl N),(79,Mc N),(78,CU N),(80,NV N),(83,Kt N),(82,Qn N),(81,BZ N),(84,J3 N)] Ab2) Adb Tryz.f32 N (Ac ⟨TR N,Zk N,Dw N,Hf N,Jm N,OA N,CP N,Qa N,Rh N,RG N,BO N,Ha N,trivial⟩)
def UX:List (Nat×Nrm):=[(3,⟨[8],[([8],35,Tq1,1004096)],[],[(1000000,1004096)],[]⟩),(30,⟨[3,6,8],[([8],35,Tq1,1000000)],[],[(44544,1000000)],[]⟩)]
def WQ:Lk:=⟨[],[(30,⟨[(3,.c (.c (.ptr 33536 0))),(6,.c (.c (.ptr 36352 0))),(8,.c (xo 1000000))],[(33536,.box [(xl (.sl 73 Tq0 .nil))]),(36352,.box [(xl Tq5)]),(1000000,.arr 35 false Tq1)]⟩,[(0,⟨[(8,.c (xo 1004096))],[(1004096,.arr 35 false Tq1)]⟩)])]⟩
def LH (N:Nat):Sig:=.of [Aj,Sq0] [.cell false (.sl 35 Tq1),Ae] (fun a=>O5 N a.1 a.2)
theorem SE (N:Nat):Ad 110 (LH N):=Ah (Ag [(167,IX N),(169,O6 N)] UX [(104,EW N),(168,Fz N)]) WQ Tryz.f110 N (Ac ⟨Kv N,UY N,trivial⟩ ⟨G5 N,JD N,trivial⟩)
def Rf:List (Nat×Nrm):=[(3,⟨[7],[],[],[],[]⟩),(26,⟨[0,7,21,22,23],[],[],[],[]⟩)]
def SG:Lk:=⟨[],[(26,⟨[(0,.c (.c (.ptr 0 0))),(7,.c (xo 37632)),(21,.i),(22,.i),(23,.c x64)],[(0,.box [xs,xs,(xl (.sl 73 Tq0 .nil)),x64,x64,x64,x64,xs,xb,(xl Tq2),xb,xb,x64,xb,(xl Tq3),(xl Tq1),xs]),(37632,.mp (.str .nil) (.bool .nil))]⟩,[(0,⟨[(7,.c (xo 37632))],[(0,.box [xs,xs,(xl (.sl 73 Tq0 .nil)),x64,x64,x64,x64,xs,xb,(xl Tq2),xb,xb,x64,xb,(xl Tq3),(xl Tq1),xs]),(37632,.mp (.str .nil) (.bool .nil))]⟩)])]⟩
def Ji (N:Nat):Sig:=.of [Aeg,Aj] [Ae] (fun a=>Kr N a.1 a.2)
theorem Pg (N:Nat):Ad 111 (Ji N):=Ah (Ag [(170,Qm N),(171,Ud N)] Rf) SG Tryz.f111 N (Ac ⟨RF N,Zm N,trivial⟩)
end
noncomputable section
def ZH (N:Nat):Sig:=.of [Sq2,aX] [Aj,Ae] (fun a=>Nj N a.1 a.2)
theorem lW (N:Nat):Ad 24 (ZH N):=Ah (Ag [(32,Xy N),(55,L8 N),(33,fQ N)] []) ⟨[],[]⟩ Tryz.f24 N (Ac ⟨Xz N,Rl N,rJ N,trivial⟩)
def bG:List (Nat×Nrm):=[(117,⟨[0,5,9],[],[],[],[]⟩)]
def fZ:Lk:=⟨[(117,⟨[(0,.c (.c (.ptr 0 0))),(5,.c (.c (.ptr 36608 0))),(9,.c (.c (.ptr 35072 0)))],[(0,.box [xs,xs,(xl (.sl 73 Tq0 .nil)),x64,x64,x64,x64,xs,xb,(xl Tq2),xb,xb,x64,xb,(xl Tq3),(xl Tq1),xs]),(35072,.box [x64,xs,xs]),(36608,.box [(xl Tq5)])]⟩)],[]⟩
def Rw (N:Nat):Sig:=.of [Aeg,Aj] [Ae] (fun a=>VZ N a.1 a.2)
theorem X4 (N:Nat):Ad 58 (Rw N):=Ah (Ag [(106,PY N),(59,Kq N),(57,Dk N),(107,LZ N),(108,Ve N),(109,Eg N),(110,LH N),(111,Ji N),(61,Dj N)] bG [(104,EW N)]) fZ Tryz.f58 N (Ac ⟨Ry N,Nk N,Dh N,O9 N,Wn N,Ec N,SE N,Pg N,Df N,trivial⟩ ⟨G5 N,trivial⟩)
end
noncomputable section
def Xx (N:Nat):Sig:=.of [Aj] [Sq2,Ae] (fun a=>JZ N a)
theorem fO (N:Nat):Ad 25 (Xx N):=Ah (Ag [(57,Dk N),(58,Rw N),(59,Kq N),(60,Rz N),(61,Dj N),(10,SC N),(32,Xy N)] [] [(56,Iz N)]) ⟨[],[]⟩ Tryz.f25 N (Ac ⟨Dh N,X4 N,Nk N,XB N,Df N,TR N,Xz N,trivial⟩ ⟨Ku N,trivial⟩)
end
noncomputable section
def Wv (N:Nat):Sig:=.of [] [AZ] (fun _=>ES N)
theorem cO (N:Nat):Ad 9 (Wv N):=Ah (Ag [(23,ZY N),(8,Fg N),(24,ZH N),(25,Xx N),(17,UU N),(28,LP N),(27,X0 N),(20,Rt N)] [] [(22,QQ N)] [] [] [45,48,49,55,56,58,59,63,64,67] [(8,7,49,[50,51,52,53,54])]) ⟨[],[]⟩ Tryz.f9 N (Ac ⟨o5 N,F5 N,lW N,fO N,VY N,Tz N,fU N,PT N,trivial⟩ ⟨oV N,trivial⟩)
end
noncomputable section
def bZ:List (Nat×Nrm):=[(3,⟨[4,5],[],[],[],[]⟩),(11,⟨[2,4,5,7,13,14,40,41,42],[],[],[],[]⟩),(19,⟨[2,4,5,7,13,14,16,40,41,42,52,53,54],[],[],[],[]⟩),(26,⟨[2,4,5,7,13,14,40,41,42],[],[],[],[]⟩),(38,⟨[2,4,5,7,13,14,16,40,41,42,52,53,54],[],[],[],[]⟩),(50,⟨[2,4,5,7,13,14,16,18,40,41,42,52,53,54,62,63,64],[],[],[],[]⟩)]
def jO:Lk:=⟨[],[(26,⟨[(2,.i),(4,.i),(5,.i),(7,.c (.c (.ptr 34560 0))),(13,.c (.c (.ptr 41728 0))),(14,.c (.c (.ptr 36352 0))),(40,.c (xo 43008)),(41,.i),(42,.c x64)],[(34560,.box [(xl (.sl 73 Tq0 .nil))]),(36352,.box [xs,xs,(xl (.sl 73 Tq0 .nil)),x64,x64,x64,x64,xs,xb,(xl Tq2),xb,xb,x64,xb,(xl Tq3),(xl Tq1),xs]),(41728,.box [(xl (.int .i64 .nil)),x64]),(43008,.arr 33 false Tq6)]⟩,[(0,⟨[(4,.i),(5,.i)],[]⟩)]),(38,⟨[(2,.i),(4,.i),(5,.i),(7,.c (.c (.ptr 34560 0))),(13,.c (.c (.ptr 41728 0))),(14,.c (.c (.ptr 36352 0))),(16,.c (.c (.ptr 36864 0))),(40,.c (xo 43008)),(41,.i),(42,.i),(52,.c (xo 46080)),(53,.i),(54,.c x64)],[(34560,.box [(xl (.sl 73 Tq0 .nil))]),(36352,.box [xs,xs,(xl (.sl 73 Tq0 .nil)),x64,x64,x64,x64,xs,xb,(xl Tq2),xb,xb,x64,xb,(xl Tq3),(xl Tq1),xs]),(36864,.box [xs,xs,(xl (.sl 73 Tq0 .nil)),x64,x64,x64,x64,xs,xb,(xl Tq2),xb,xb,x64,xb,(xl Tq3),(xl Tq1),xs]),(41728,.box [(xl (.int .i64 .nil)),x64]),(43008,.arr 33 false Tq6),(46080,.arr 25 false Tq7)]⟩,[(2,⟨[(2,.i),(4,.i),(5,.i),(7,.c (.c (.ptr 34560 0))),(13,.c (.c (.ptr 41728 0))),(14,.c (.c (.ptr 36352 0))),(40,.c (xo 43008)),(41,.i),(42,.i)],[(34560,.box [(xl (.sl 73 Tq0 .nil))]),(36352,.box [xs,xs,(xl (.sl 73 Tq0 .nil)),x64,x64,x64,x64,xs,xb,(xl Tq2),xb,xb,x64,xb,(xl Tq3),(xl Tq1),xs]),(41728,.box [(xl (.int .i64 .nil)),x64]),(43008,.arr 33 false Tq6)]⟩)]),(50,⟨[(2,.i),(4,.i),(5,.i),(7,.c (.c (.ptr 34560 0))),(13,.c (.c (.ptr 41728 0))),(14,.c (.c (.ptr 36352 0))),(16,.c (.c (.ptr 36864 0))),(18,.c (.c (.ptr 37376 0))),(40,.c (xo 43008)),(41,.i),(42,.i),(52,.c (xo 46080)),(53,.i),(54,.i),(62,.c (xo 48640)),(63,.i),(64,.c x64)],[(34560,.box [(xl (.sl 73 Tq0 .nil))]),(36352,.box [xs,xs,(xl (.sl 73 Tq0 .nil)),x64,x64,x64,x64,xs,xb,(xl Tq2),xb,xb,x64,xb,(xl Tq3),(xl Tq1),xs]),(36864,.box [xs,xs,(xl (.sl 73 Tq0 .nil)),x64,x64,x64,x64,xs,xb,(xl Tq2),xb,xb,x64,xb,(xl Tq3),(xl Tq1),xs]),(37376,.box [(xl (.sl 73 Tq0 .nil))]),(41728,.box [(xl (.int .i64 .nil)),x64]),(43008,.arr 33 false Tq6),(46080,.arr 25 false Tq7),(48640,.arr 3 false (.int .i64 .nil))]⟩,[(4,⟨[(2,.i),(4,.i),(5,.i),(7,.c (.c (.ptr 34560 0))),(13,.c (.c (.ptr 41728 0))),(14,.c (.c (.ptr 36352 0))),(16,.c (.c (.ptr 36864 0))),(40,.c (xo 43008)),(41,.i),(42,.i),(52,.c (xo 46080)),(53,.i),(54,.i)],[(34560,.box [(xl (.sl 73 Tq0 .nil))]),(36352,.box [xs,xs,(xl (.sl 73 Tq0 .nil)),x64,x64,x64,x64,xs,xb,(xl Tq2),xb,xb,x64,xb,(xl Tq3),(xl Tq1),xs]),(36864,.box [xs,xs,(xl (.sl 73 Tq0 .nil)),x64,x64,x64,x64,xs,xb,(xl Tq2),xb,xb,x64,xb,(xl Tq3),(xl Tq1),xs]),(41728,.box [(xl (.int .i64 .nil)),x64]),(43008,.arr 33 false Tq6),(46080,.arr 25 false Tq7)]⟩)])]⟩
def jP (N:Nat):Sig:=.of [Sq2,Sq0,Ae,Abg,Ae,.cell false (.int .u8)] [AZ] (fun a=>FC N a.1 a.2.1 a.2.2.1 a.2.2.2.1 a.2.2.2.2.1 a.2.2.2.2.2)
theorem Yn (N:Nat):Ad 4 (jP N):=Ah (Ag [(12,Qz N),(13,Fh N),(9,Wv N),(14,jR N),(15,ZW N),(16,CZ N),(8,Fg N),(17,UU N),(18,Jf N),(19,OJ N),(20,Rt N),(21,aO N)] bZ [] [] [] [85,91,92,98,99,105,106,112,113,120]) jO Tryz.f4 N (Ac ⟨WV N,F6 N,cO N,sK N,nY N,CV N,F5 N,VY N,Lp N,VL N,PT N,oQ N,trivial⟩)
end
