import Derived.Test.YtbaomhegdndpnaaGreatDoorA22
set_option linter.all false
namespace Go.Proofs.YtbaomhegdndpnaaGreatDoor.Vm
noncomputable section
open Go.Proofs
def fZ:List (Nat×Nrm):=[(3,⟨[],[],[],[],[]⟩),(18,⟨[2,3,15,16],[],[],[],[]⟩)]
def lT:Lk:=⟨[],[(18,⟨[(2,.c (.c (.ptr 33280 0))),(3,.c (.c (.ptr 33536 0))),(15,.i),(16,.c x64)],[(33280,.box [(xl (.sl 73 Tq0 .nil))]),(33536,.box [(xl (.sl 73 Tq0 .nil))])]⟩,[(0,⟨[],[]⟩)])]⟩
def TS (N:Nat):Sig:=.of [Sq0,Sq0] [AL] (fun a=>PW N a.1 a.2)
theorem Zn (N:Nat):Ad 153 (TS N):=Ah (Ag [(217,XH N)] fZ) lT Tryz.f153 N (Ac ⟨gG N,trivial⟩)
def EP (N:Nat):Sig:=.of [Sq8] [Aj] (fun a=>CE N a)
theorem Em (N:Nat):Ad 159 (EP N):=Ah (Ag [(229,iG N)] []) ⟨[],[]⟩ Tryz.f159 N (Ac ⟨qY N,trivial⟩)
def YO (N:Nat):Sig:=.of [Af,Aj] [AL] (fun a=>VP N a.1 a.2)
theorem kJ (N:Nat):Ad 149 (YO N):=Ah (Ag [(205,kL N),(206,kK N)] []) ⟨[],[]⟩ Tryz.f149 N (Ac ⟨tC N,sZ N,trivial⟩)
def Rt (N:Nat):Sig:=.of [Aj] [AL] (fun a=>NL N a)
theorem Ya (N:Nat):Ad 211 (Rt N):=Ah (Ag [(212,SC N),(270,La N),(269,JV N)] []) ⟨[],[]⟩ Tryz.f211 N (Ac ⟨Ua N,QV N,IV N,trivial⟩)
def lH:List (Nat×Nrm):=[(3,⟨[6,7],[],[],[],[]⟩),(37,⟨[4,6,7],[],[],[(38144,1000000),(39680,1000000)],[]⟩),(42,⟨[6,7,38,39,40],[],[],[(44544,1000000)],[]⟩)]
def qO:Lk:=⟨[(37,⟨[(4,.c (.c (.ptr 33792 0))),(6,.c x64),(7,.c (xo 1000000))],[(33792,.box [x64,x64,x64,x64,x64,x64]),(1000000,.arr 5 false (.int .u8 .nil))]⟩)],[(42,⟨[(6,.i),(7,.c (xo 1000000)),(38,.c (xo 42496)),(39,.i),(40,.c x64)],[(42496,.arr 3 false (.int .i64 .nil)),(1000000,.arr 5 false (.int .u8 .nil))]⟩,[(0,⟨[(6,.i),(7,.c (xo 1000000))],[(1000000,.arr 5 false (.int .u8 .nil))]⟩)])]⟩
def N9 (N:Nat):Sig:=.of [Af] [Aj,Af] (fun a=>IB N a)
theorem PN (N:Nat):Ad 80 (N9 N):=Ah (Ag [(139,XA N),(140,fP N),(136,EG N)] lH) qO Tryz.f80 N (Ac ⟨fH N,qQ N,DK N,trivial⟩)
def vU:List (Nat×Nrm):=[(3,⟨[],[],[],[],[]⟩),(30,⟨[3,15,16,17],[],[],[],[]⟩)]
def zK:Lk:=⟨[],[(30,⟨[(3,.c (xo 36352)),(15,.i),(16,.i),(17,.c x64)],[(36352,.mp (.str .nil) (.int .i64 .nil))]⟩,[(0,⟨[],[]⟩)])]⟩
def Sz (N:Nat):Sig:=.of [.cell false (.sl 183 Tq4)] [Af] (fun a=>XK N a)
theorem TU (N:Nat):Ad 141 (Sz N):=Ah (Ag [(198,ZI N),(148,SL N),(199,aK N)] vU) zK Tryz.f141 N (Ac ⟨lZ N,Ui N,o9 N,trivial⟩)
def Et (N:Nat):Sig:=.of [.box [(false,.bool)],.box [(false,.str)],.box [(false,.str)]] [Aj] (fun a=>EI N a.1 a.2.1 a.2.2)
theorem aU (N:Nat):Ad 146 (Et N):=Ah (Ag [(77,G5 N),(147,Un N),(78,CB N),(81,BL N),(75,Dp N)] []) ⟨[],[]⟩ Tryz.f146 N (Ac ⟨II N,Zv N,Cj N,BF N,Df N,trivial⟩)
def H7 (N:Nat):Alt:=.of [.cell false .str,.cell false (.int .i64)] [Ip,.cell false (.int .i64)] [.cell false .ptr,.cell false (.int .i64)] (fun a=>PT N a.1 a.2)
theorem JM (N:Nat):Spec Tryz.prog 56 (H7 N).1/\Spec Tryz.prog 56 (H7 N).2.1:=Hy (C:=ctx Tryz.prog [(103,DF N)] [] [(104,EL N)]) (L:=⟨[],[]⟩) (fn:=Tryz.f56) (N:=N) (Ac ⟨FO N,trivial⟩ ⟨FV N,trivial⟩) (by kernel_rfl) (by kernel_rfl) (fun a=>by kernel_rfl)
end
