/-
  CertextCheck: the law returns true whatever the input; machine, functions, plain law (part 29 of 47.)
-/
import Derived.Test.YtadefjgbcapakaaGreatDoorA28
set_option linter.unusedVariables false
set_option linter.unusedSimpArgs false
namespace Go.Proofs.YtadefjgbcapakaaGreatDoor.Vm
noncomputable section
open Go.Proofs
def rU:List (Nat×Nrm):=[(3,⟨[1,10],[],[],[],[]⟩),(130,⟨[1,10,120,121,122],[],[],[],[]⟩)]
def xH:Lk:=⟨[],[(130,⟨[(1,.c (.c (.ptr 33024 0))),(10,.c x64),(120,.i),(121,.i),(122,.c x64)],[(33024,.box [xb,xb,x64,x64,(xl (.str .nil)),(xl (.str .nil)),(xl (.str (.str .nil))),x64,x64,x64,(xl Tq1),xb,(xl Tq1),(xl Tq1),xs,xs,(xl Tq2),(xl Tq2),(xl Tq3)])]⟩,[(0,⟨[(1,.c (.c (.ptr 33024 0))),(10,.c x64)],[(33024,.box [xb,xb,x64,x64,(xl (.str .nil)),(xl (.str .nil)),(xl (.str (.str .nil))),x64,x64,x64,(xl Tq1),xb,(xl Tq1),(xl Tq1),xs,xs,(xl Tq2),(xl Tq2),(xl Tq3)])]⟩)])]⟩
def OG (N:Nat):Sig:=.of [Sq2] [.cell false (.int .i64)] (fun a=>H6 N a)
theorem QZ (N:Nat):Spec Tryz.prog 15 (OG N):=Ac (C:=ctx Tryz.prog [(53,XA N),(54,Rf N),(55,MC N),(56,Jr N),(57,JG N),(24,IQ N),(44,LC N),(58,MX N)] rU [] [(127,gW N)] [] [15,19,20,24,28,29,34,39,40,45,46,51,52,56,57,61]) (L:=xH) (fn:=Tryz.f15) (N:=N) (Ag ⟨nY N,Xo N,Si N,MF N,PV N,KN N,ML N,Tu N,trivial⟩ trivial ⟨xX N,trivial⟩)
def Ui (N:Nat):Sig:=.of [.box [(false,.bool)],Sq2] [.cell false .str] (fun a=>Eb N a.1 a.2)
theorem Rh (N:Nat):Spec Tryz.prog 135 (Ui N):=Ac (C:=ctx Tryz.prog [(200,Vf N),(71,CZ N)] []) (L:=⟨[],[]⟩) (fn:=Tryz.f135) (N:=N) (Ag ⟨eU N,CO N,trivial⟩)
def Vl:List (Nat×Nrm):=[(3,⟨[5,6],[([6],9,(.str .nil),1016384)],[],[(1000000,1016384)],[]⟩),(38,⟨[5,6,22,23,24],[([6],9,(.str .nil),1000000)],[],[(54272,1000000)],[]⟩),(57,⟨[5,6,8,9,22,23,24],[([6],9,(.str .nil),1004096)],[],[(1000000,1004096)],[]⟩),(65,⟨[5,6,8,9,22,23,24],[([6],9,(.str .nil),1008192)],[],[(1004096,1008192)],[]⟩),(77,⟨[5,6,9,22,23,24],[([6],9,(.str .nil),1012288)],[],[(1008192,1012288)],[]⟩)]
def Wp:Lk:=⟨[(57,⟨[(5,.c (.c (.ptr 38144 0))),(6,.c (xo 1004096)),(8,.c (.c (.ptr 34816 0))),(9,.c (xo 39936)),(22,.i),(23,.i),(24,.i)],[(34816,.box [(xl Tq1),x64,xb,(xl (.sl 177 Tq0 .nil))]),(38144,.box [xb]),(39936,.arr 9 false (.str .nil)),(1004096,.arr 9 false (.str .nil))]⟩),(65,⟨[(5,.c (.c (.ptr 38144 0))),(6,.c (xo 1008192)),(8,.c (.c (.ptr 34816 0))),(9,.c (xo 39936)),(22,.i),(23,.i),(24,.i)],[(34816,.box [(xl Tq1),x64,xb,(xl (.sl 177 Tq0 .nil))]),(38144,.box [xb]),(39936,.arr 9 false (.str .nil)),(1008192,.arr 9 false (.str .nil))]⟩),(77,⟨[(5,.c (.c (.ptr 38144 0))),(6,.c (xo 1012288)),(9,.c (xo 39936)),(22,.i),(23,.i),(24,.i)],[(38144,.box [xb]),(39936,.arr 9 false (.str .nil)),(1012288,.arr 9 false (.str .nil))]⟩)],[(38,⟨[(5,.c (.c (.ptr 38144 0))),(6,.c (xo 1000000)),(22,.i),(23,.i),(24,.c x64)],[(38144,.box [xb]),(1000000,.arr 9 false (.str .nil))]⟩,[(0,⟨[(5,.c (.c (.ptr 38144 0))),(6,.c (xo 1016384))],[(38144,.box [xb]),(1016384,.arr 9 false (.str .nil))]⟩)])]⟩
def Iy (N:Nat):Sig:=.of [.cell false (.sl 111 Tq2)] [.cell false .str,.cell false (.int .i64)] (fun a=>Eu N a)
theorem Kw (N:Nat):Spec Tryz.prog 22 (Iy N):=Ac (C:=ctx Tryz.prog [(24,IQ N),(72,KQ N),(71,CZ N),(70,CE N),(73,Pz N),(74,LK N),(75,Dv N),(45,NP N)] Vl) (L:=Wp) (fn:=Tryz.f22) (N:=N) (Ag ⟨KN N,Ox N,CO N,Cb N,RD N,MM N,CX N,PX N,trivial⟩)
end
noncomputable section
def bW (N:Nat):Sig:=.of [.box [(false,.bool)],Sq2] [.cell false .str] (fun a=>Gi N a.1 a.2)
theorem WA (N:Nat):Spec Tryz.prog 144 (bW N):=Ac (C:=ctx Tryz.prog [(22,Iy N),(71,CZ N)] []) (L:=⟨[],[]⟩) (fn:=Tryz.f144) (N:=N) (Ag ⟨Kw N,CO N,trivial⟩)
def Xw (N:Nat):Sig:=.of [.box [(false,.bool)],Sq2] [.cell false .str] (fun a=>EP N a.1 a.2)
theorem Uj (N:Nat):Spec Tryz.prog 147 (Xw N):=Ac (C:=ctx Tryz.prog [(22,Iy N),(71,CZ N)] []) (L:=⟨[],[]⟩) (fn:=Tryz.f147) (N:=N) (Ag ⟨Kw N,CO N,trivial⟩)
end
noncomputable section
def AbV (N n:Nat):Sig:=.of [.box [(false,.bool)],Sq2] [.cell false .str] (AaH N n)
theorem Aii (N:Nat):lY Tryz.prog (AbV N):=AaI (Ah:=[.box [(false,.bool)],Sq2]) (AL:=[.cell false .str]) (l:=[(111,fun a=>EW N a.1 a.2),(114,fun a=>EY N a.1 a.2),(117,fun a=>DY N a.1 a.2),(120,fun a=>DX N a.1 a.2),(123,fun a=>DW N a.1 a.2),(126,fun a=>EJ N a.1 a.2),(129,fun a=>Ei N a.1 a.2),(132,fun a=>EX N a.1 a.2),(135,fun a=>Eb N a.1 a.2),(138,fun a=>Ej N a.1 a.2),(141,fun a=>DN N a.1 a.2),(144,fun a=>Gi N a.1 a.2),(147,fun a=>EP N a.1 a.2)]) ⟨Xu N,X9 N,Um N,Ul N,Uk N,Wy N,Vs N,X0 N,Rh N,Vt N,Tv N,WA N,Uj N,trivial⟩
end
noncomputable section
def nM:List (Nat×Nrm):=[(3,⟨[1,5,6],[([6],60,Tq3,1004096)],[],[(1000000,1004096)],[]⟩),(30,⟨[1,5,6,16,17,18],[([6],60,Tq3,1000000)],[],[(44032,1000000)],[]⟩)]
def rV:Lk:=⟨[],[(30,⟨[(1,.c (.c (.ptr 33024 0))),(5,.c (.c (.ptr 36608 0))),(6,.c (xo 1000000)),(16,.i),(17,.i),(18,.c x64)],[(33024,.box [xb,xb,x64,x64,(xl (.str .nil)),(xl (.str .nil)),(xl (.str (.str .nil))),x64,x64,x64,(xl Tq1),xb,(xl Tq1),(xl Tq1),xs,xs,(xl Tq2),(xl Tq2),(xl Tq3)]),(36608,.box [xb]),(1000000,.arr 60 false Tq3)]⟩,[(0,⟨[(1,.c (.c (.ptr 33024 0))),(5,.c (.c (.ptr 36608 0))),(6,.c (xo 1004096))],[(33024,.box [xb,xb,x64,x64,(xl (.str .nil)),(xl (.str .nil)),(xl (.str (.str .nil))),x64,x64,x64,(xl Tq1),xb,(xl Tq1),(xl Tq1),xs,xs,(xl Tq2),(xl Tq2),(xl Tq3)]),(36608,.box [xb]),(1004096,.arr 60 false Tq3)]⟩)])]⟩
def NM (N:Nat):Sig:=.of [Sq2] [.cell false (.sl 60 Tq3),.cell false (.int .i64)] (fun a=>EU N a)
theorem PW (N:Nat):Spec Tryz.prog 13 (NM N):=Ac (C:=ctx Tryz.prog [(15,OG N),(44,LC N),(45,NP N)] nM [] [(23,gW N),(38,AbV N)]) (L:=rV) (fn:=Tryz.f13) (N:=N) (Ag ⟨QZ N,ML N,PX N,trivial⟩ trivial ⟨xX N,Aii N,trivial⟩)
end
noncomputable section
def aK (N:Nat):Sig:=.of [] [.cell false .bool] (fun _=>Na N)
theorem uJ (N:Nat):Spec Tryz.prog 10 (aK N):=Ac (C:=ctx Tryz.prog [(19,Qk N),(13,NM N)] [] [] [] [] [22,26,27,33,34,37,38,42]) (L:=⟨[],[]⟩) (fn:=Tryz.f10) (N:=N) (Ag ⟨SN N,PW N,trivial⟩)
end
noncomputable section
def XQ:List (Nat×Nrm):=[(3,⟨[],[],[],[],[]⟩),(18,⟨[20,21,22],[],[],[],[]⟩)]
def Zg:Lk:=⟨[],[(18,⟨[(20,.c (xo 37888)),(21,.i),(22,.c x64)],[(37888,.arr 30 false Tq5)]⟩,[(0,⟨[],[]⟩)])]⟩
def Zi (N:Nat):Sig:=.of [Sq2,Alf] [.cell false .bool] (fun a=>FM N a.1 a.2)
theorem Vw (N:Nat):Spec Tryz.prog 3 (Zi N):=Ac (C:=ctx Tryz.prog [(9,U1 N),(10,aK N),(12,zB N),(11,VG N),(13,NM N),(14,RJ N),(15,OG N),(16,MS N),(17,IE N),(19,Qk N),(20,VZ N),(18,aN N)] XQ) (L:=Zg) (fn:=Tryz.f3) (N:=N) (Ag ⟨dM N,uJ N,Adc N,iY N,PW N,Yq N,QZ N,PG N,KC N,SN N,kU N,uM N,trivial⟩)
end
