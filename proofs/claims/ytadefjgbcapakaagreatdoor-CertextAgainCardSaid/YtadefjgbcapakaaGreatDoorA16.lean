import Derived.Test.YtadefjgbcapakaaGreatDoorA13
import Derived.Test.YtadefjgbcapakaaGreatDoorA14
import Derived.Test.YtadefjgbcapakaaGreatDoorA15
set_option linter.all false
namespace Go.Proofs.YtadefjgbcapakaaGreatDoor.Vm
noncomputable section
open Go.Proofs
def Ahs:List (Nat×Nrm):=[(3,⟨[3],[],[],[],[]⟩),(22,⟨[0,3,4],[],[],[],[]⟩)]
def AjF:Lk:=⟨[],[(22,⟨[(0,.i),(3,.c x64),(4,.c x64)],[]⟩,[(0,⟨[(3,.c x64)],[]⟩)])]⟩
def AaP (N:Nat):Sig:=.of [.cell false .str] [.cell false (.int .i64)] (fun a=>XR N a)
theorem AdE (N:Nat):Spec Tryz.prog 243 (AaP N):=Ad (C:=ctx Tryz.prog [] Ahs [] [] [] [7,11,12,16,20,21]) (L:=AjF) (fn:=Tryz.f243) (N:=N) (Ag trivial)
def vJ (N:Nat):Sig:=.of [.cell false (.int .i64),.cell false (.int .i64)] [.cell false .bool] (fun a=>YY N a.1 a.2)
theorem AbG (N:Nat):Spec Tryz.prog 244 (vJ N):=Ad (C:=ctx Tryz.prog [] []) (L:=⟨[],[]⟩) (fn:=Tryz.f244) (N:=N) (Ag trivial)
def ZB (N:Nat):Sig:=.of [.cell false (.int .u8)] [.cell false .bool] (fun a=>lX N a)
theorem qQ (N:Nat):Spec Tryz.prog 286 (ZB N):=Ad (C:=ctx Tryz.prog [] [] [] [] [] [5,8,9,12,15,16,17,20,23,24]) (L:=⟨[],[]⟩) (fn:=Tryz.f286) (N:=N) (Ag trivial)
def Aau (N:Nat):Sig:=.of [.cell false (.int .u8)] [.cell false .bool] (fun a=>Jl N a)
theorem kV (N:Nat):Spec Tryz.prog 288 (Aau N):=Ad (C:=ctx Tryz.prog [] []) (L:=⟨[],[]⟩) (fn:=Tryz.f288) (N:=N) (Ag trivial)
def tJ (N:Nat):Sig:=.of [.cell false (.int .i64)] [.cell false (.int .i64)] (fun a=>oL N a)
theorem Abu (N:Nat):Spec Tryz.prog 205 (tJ N):=Ad (C:=ctx Tryz.prog [] []) (L:=⟨[],[]⟩) (fn:=Tryz.f205) (N:=N) (Ag trivial)
end
noncomputable section
def fZ:List (Nat×Nrm):=[(3,⟨[0,3],[],[],[],[]⟩),(11,⟨[5],[([5],5,(.int .u8 .nil),1012288)],[],[(1008192,1012288)],[]⟩),(14,⟨[0,3,4],[],[],[],[]⟩),(34,⟨[0,3,5,18,19],[([5],5,(.int .u8 .nil),1008192)],[],[(41216,1008192)],[]⟩)]
def kN:Lk:=⟨[],[(14,⟨[(0,.i),(3,.c x64),(4,.c x64)],[]⟩,[(0,⟨[(0,.i),(3,.c x64)],[]⟩)]),(34,⟨[(0,.i),(3,.i),(5,.c (xo 1008192)),(18,.i),(19,.c x64)],[(1008192,.arr 5 false (.int .u8 .nil))]⟩,[(2,⟨[(5,.c (xo 1012288))],[(1012288,.arr 5 false (.int .u8 .nil))]⟩)])]⟩
def MH (N:Nat):Sig:=.of [.cell false (.int .i64)] [.cell false .str] (fun a=>Gx N a)
theorem OT (N:Nat):Spec Tryz.prog 199 (MH N):=Ad (C:=ctx Tryz.prog [] fZ) (L:=kN) (fn:=Tryz.f199) (N:=N) (Ag trivial)
def RG (N:Nat):Sig:=.of [.cell false .bool] [.cell false .str] (fun a=>VB N a)
theorem Za (N:Nat):Spec Tryz.prog 233 (RG N):=Ad (C:=ctx Tryz.prog [] []) (L:=⟨[],[]⟩) (fn:=Tryz.f233) (N:=N) (Ag trivial)
def qE:List (Nat×Nrm):=[(3,⟨[0,4],[],[],[],[]⟩),(11,⟨[5],[],[],[],[]⟩),(18,⟨[0,4],[],[],[],[]⟩),(38,⟨[0,5,34,35],[],[],[],[]⟩)]
def vZ:Lk:=⟨[],[(18,⟨[(0,.i),(4,.c x64)],[]⟩,[(0,⟨[(0,.i),(4,.c x64)],[]⟩)]),(38,⟨[(0,.i),(5,.c (xo 38912)),(34,.i),(35,.c x64)],[(38912,.arr 5 false (.int .u8 .nil))]⟩,[(2,⟨[(5,.c (xo 38912))],[(38912,.arr 5 false (.int .u8 .nil))]⟩)])]⟩
def OQ (N:Nat):Sig:=.of [.cell false (.int .i64)] [.cell false .str,.cell false (.int .i64)] (fun a=>Ih N a)
theorem QM (N:Nat):Spec Tryz.prog 73 (OQ N):=Ad (C:=ctx Tryz.prog [] qE) (L:=vZ) (fn:=Tryz.f73) (N:=N) (Ag trivial)
def Ahv:List (Nat×Nrm):=[(3,⟨[0,1,5],[],[],[],[]⟩),(10,⟨[0,1,5],[],[],[],[]⟩),(11,⟨[0,1],[],[],[(0,1012288),(1008192,1012288)],[]⟩),(22,⟨[0,1,6],[],[],[(0,1008192),(40704,1008192)],[]⟩)]
def AjH:Lk:=⟨[],[(10,⟨[(0,.c (xo 0)),(1,.i),(5,.c x64)],[(0,.arr 5 true (.int .u8 .nil))]⟩,[(0,⟨[(0,.c (xo 0)),(1,.i),(5,.c x64)],[(0,.arr 5 true (.int .u8 .nil))]⟩)]),(22,⟨[(0,.c (xo 1008192)),(1,.i),(6,.c x64)],[(1008192,.arr 5 true (.int .u8 .nil))]⟩,[(2,⟨[(0,.c (xo 1012288)),(1,.i)],[(1012288,.arr 5 true (.int .u8 .nil))]⟩)])]⟩
def AaQ (N:Nat):Sig:=.of [AnK,.cell false (.int .i64)] [AnK] (fun a=>XT N a.1 a.2)
theorem AdF (N:Nat):Spec Tryz.prog 267 (AaQ N):=Ad (C:=ctx Tryz.prog [] Ahv) (L:=AjH) (fn:=Tryz.f267) (N:=N) (Ag trivial)
def QY (N:Nat):Sig:=.of [.cell false (.int .i64)] [.cell false (.int .i64)] (fun a=>MM N a)
theorem TW (N:Nat):Spec Tryz.prog 165 (QY N):=Ad (C:=ctx Tryz.prog [] []) (L:=⟨[],[]⟩) (fn:=Tryz.f165) (N:=N) (Ag trivial)
def PH (N:Nat):Sig:=.of [] [ApC] (fun _=>KO N)
theorem Ru (N:Nat):Spec Tryz.prog 19 (PH N):=Ad (C:=ctx Tryz.prog [] []) (L:=⟨[],[]⟩) (fn:=Tryz.f19) (N:=N) (Ag trivial)
def gJ (N:Nat):Sig:=.of [] [AnL] (fun _=>Zg N)
theorem wK (N:Nat):Spec Tryz.prog 20 (gJ N):=Ad (C:=ctx Tryz.prog [] []) (L:=⟨[],[]⟩) (fn:=Tryz.f20) (N:=N) (Ag trivial)
def Dk (N:Nat):Sig:=.of [Td,.cell false (.int .i64)] [.cell false (.int .i64)] (fun a=>Aw N a.1 a.2)
theorem CV (N:Nat):Spec Tryz.prog 33 (Dk N):=Ad (C:=ctx Tryz.prog [] []) (L:=⟨[],[]⟩) (fn:=Tryz.f33) (N:=N) (Ag trivial)
end
noncomputable section
def Rh (N:Nat):Sig:=.of [.cell false (.int .i64)] [.cell false .str] (fun a=>JV N a)
theorem Ud (N:Nat):Spec Tryz.prog 41 (Rh N):=Ad (C:=ctx Tryz.prog [] []) (L:=⟨[],[]⟩) (fn:=Tryz.f41) (N:=N) (Ag trivial)
def Uu (N n:Nat):Sig:=.of [.cell false (.int .i64)] [.cell false .str] (fun a=>VD N n a)
theorem VE (N:Nat): ∀ n,Spec Tryz.prog 227 (Uu N n)
  | 0=>Abd (C:=ctx Tryz.prog [] []) (fn:=Tryz.f227) (Ag (gs:=[]) trivial) (by kernel_rfl) (by kernel_rfl)
  | n+1=>Ad (C:=ctx Tryz.prog ((227,Uu N n)::[]) []) (L:=⟨[],[]⟩) (fn:=Tryz.f227) (N:=N) (Ag ⟨VE N n,trivial⟩)
def lV (N:Nat):Sig:=Uu N N
theorem Aan (N:Nat):Spec Tryz.prog 227 (lV N):=VE N N
def uS (N:Nat):Sig:=.of [Aky] [Td] (fun a=>pI N a)
theorem Ab7 (N:Nat):Spec Tryz.prog 12 (uS N):=Ad (C:=ctx Tryz.prog [] []) (L:=⟨[],[]⟩) (fn:=Tryz.f12) (N:=N) (Ag trivial)
end
noncomputable section
def UZ:List (Nat×Nrm):=[(3,⟨[],[],[],[],[]⟩),(18,⟨[0,1,12,13],[],[],[],[]⟩)]
def WH:Lk:=⟨[],[(18,⟨[(0,.i),(1,.i),(12,.i),(13,.c x64)],[]⟩,[(0,⟨[],[]⟩)])]⟩
def MR (N:Nat):Sig:=.of [.cell false (.sl 60 Tq3),.cell false (.sl 60 Tq3)] [.cell false .bool] (fun a=>Fq N a.1 a.2)
theorem SB (N:Nat):Spec Tryz.prog 17 (MR N):=Ad (C:=ctx Tryz.prog [] UZ) (L:=WH) (fn:=Tryz.f17) (N:=N) (Ag trivial)
end
noncomputable section
def F5 (N:Nat):Sig:=.of [P9] [.cell false (.int .i64)] (fun a=>Dh N a)
theorem Fb (N:Nat):Spec Tryz.prog 85 (F5 N):=Ad (C:=ctx Tryz.prog [] []) (L:=⟨[],[]⟩) (fn:=Tryz.f85) (N:=N) (Ag trivial)
def TQ (N:Nat):Sig:=.of [P9] [Sq9,.cell false (.int .i64)] (fun a=>LC N a)
theorem aF (N:Nat):Spec Tryz.prog 221 (TQ N):=Ad (C:=ctx Tryz.prog [] []) (L:=⟨[],[]⟩) (fn:=Tryz.f221) (N:=N) (Ag trivial)
def Hm (N:Nat):Sig:=.of [P9,.cell false (.int .i64)] [Sq9,.cell false .bool] (fun a=>Ce N a.1 a.2)
theorem Hz (N:Nat):Spec Tryz.prog 173 (Hm N):=Ad (C:=ctx Tryz.prog [] []) (L:=⟨[],[]⟩) (fn:=Tryz.f173) (N:=N) (Ag trivial)
def qR:List (Nat×Nrm):=[(3,⟨[],[],[],[],[]⟩),(10,⟨[0,3],[],[],[],[]⟩)]
def xA:Lk:=⟨[],[(10,⟨[(0,.i),(3,.c x64)],[]⟩,[(0,⟨[],[]⟩)])]⟩
def VF (N:Nat):Sig:=.of [.cell false (.sl 123 Tq6)] [.cell false .bool] (fun a=>Nr N a)
theorem iD (N:Nat):Spec Tryz.prog 308 (VF N):=Ad (C:=ctx Tryz.prog [] qR) (L:=xA) (fn:=Tryz.f308) (N:=N) (Ag trivial)
def Aac:List (Nat×Nrm):=[(3,⟨[3],[([3],3,(.int .i64 .nil),1016384)],[],[(1000000,1016384)],[]⟩),(7,⟨[0,3,4],[],[],[],[]⟩),(11,⟨[],[],[],[],[]⟩),(14,⟨[0,3,4],[([3],3,(.int .i64 .nil),1000000)],[],[(42240,1000000)],[]⟩),(30,⟨[0,3,4,5],[([3],3,(.int .i64 .nil),1004096)],[],[(1000000,1004096)],[]⟩)]
def AbE:Lk:=⟨[],[(14,⟨[(0,.i),(3,.c (xo 1000000)),(4,.c x64)],[(1000000,.arr 3 false (.int .i64 .nil))]⟩,[(0,⟨[(3,.c (xo 1016384))],[(1016384,.arr 3 false (.int .i64 .nil))]⟩)]),(30,⟨[(0,.i),(3,.c (xo 1004096)),(4,.c x64),(5,.c x64)],[(1004096,.arr 3 false (.int .i64 .nil))]⟩,[(1,⟨[(0,.i),(3,.c (xo 42240)),(4,.c x64)],[(42240,.arr 3 false (.int .i64 .nil))]⟩),(2,⟨[],[]⟩)])]⟩
def Z5 (N:Nat):Sig:=.of [.cell false .str] [Aky] (fun a=>Qr N a)
theorem pY (N:Nat):Spec Tryz.prog 268 (Z5 N):=Ad (C:=ctx Tryz.prog [] Aac) (L:=AbE) (fn:=Tryz.f268) (N:=N) (Ag trivial)
end
noncomputable section
def gB (N:Nat):Sig:=.of [.cell false .str,.cell false (.int .i64)] [.cell false .bool] (fun a=>OU N a.1 a.2)
theorem wE (N:Nat):Spec Tryz.prog 264 (gB N):=Ad (C:=ctx Tryz.prog [] []) (L:=⟨[],[]⟩) (fn:=Tryz.f264) (N:=N) (Ag trivial)
def wC (N:Nat):Sig:=.of [.cell false .str,.cell false (.int .i64)] [.cell false .bool] (fun a=>Qe N a.1 a.2)
theorem AbI (N:Nat):Spec Tryz.prog 224 (wC N):=Ad (C:=ctx Tryz.prog [] []) (L:=⟨[],[]⟩) (fn:=Tryz.f224) (N:=N) (Ag trivial)
def Ei (N:Nat):Sig:=.of [P9] [.cell false (.int .i64)] (fun a=>BP N a)
theorem Eb (N:Nat):Spec Tryz.prog 176 (Ei N):=Ad (C:=ctx Tryz.prog [] []) (L:=⟨[],[]⟩) (fn:=Tryz.f176) (N:=N) (Ag trivial)
end
noncomputable section
def XW (N:Nat):Sig:=.of [.cell false .str] [.cell false .bool,.cell false (.int .i64)] (fun a=>OO N a)
theorem kK (N:Nat):Spec Tryz.prog 234 (XW N):=Ad (C:=ctx Tryz.prog [] []) (L:=⟨[],[]⟩) (fn:=Tryz.f234) (N:=N) (Ag trivial)
def vY:List (Nat×Nrm):=[(3,⟨[4],[],[],[],[]⟩),(30,⟨[0,4,42,43],[],[],[],[]⟩)]
def Aag:Lk:=⟨[],[(30,⟨[(0,.i),(4,.c x64),(42,.i),(43,.c x64)],[]⟩,[(0,⟨[(4,.c x64)],[]⟩)])]⟩
def XX (N:Nat):Sig:=.of [.cell false .str] [.cell false (.int .i64),.cell false (.int .i64)] (fun a=>Lh N a)
theorem kL (N:Nat):Spec Tryz.prog 235 (XX N):=Ad (C:=ctx Tryz.prog [] vY [] [] [] [8,12,16,20,21,25,29,30,31,32]) (L:=Aag) (fn:=Tryz.f235) (N:=N) (Ag trivial)
def UN (N:Nat):Sig:=.of [Sq1,xK] [] (fun a=>IW N a.1 a.2)
theorem QU (N:Nat):Spec Tryz.prog 197 (UN N):=Ad (C:=ctx Tryz.prog [] []) (L:=⟨[],[]⟩) (fn:=Tryz.f197) (N:=N) (Ag trivial)
def UL (N:Nat):Sig:=.of [Sq1,xK] [] (fun a=>IV N a.1 a.2)
theorem QT (N:Nat):Spec Tryz.prog 198 (UL N):=Ad (C:=ctx Tryz.prog [] []) (L:=⟨[],[]⟩) (fn:=Tryz.f198) (N:=N) (Ag trivial)
def Nv (N:Nat):Sig:=.of [.cell false .str] [.cell false (.int .i64)] (fun a=>IU N a)
theorem Pz (N:Nat):Spec Tryz.prog 202 (Nv N):=Ad (C:=ctx Tryz.prog [] []) (L:=⟨[],[]⟩) (fn:=Tryz.f202) (N:=N) (Ag trivial)
end
noncomputable section
def IL (N:Nat):Sig:=.of [P9,.cell false (.int .i64)] [Sq9,.cell false (.int .i64)] (fun a=>Fe N a.1 a.2)
theorem Jv (N:Nat):Spec Tryz.prog 172 (IL N):=Ad (C:=ctx Tryz.prog [(221,TQ N)] []) (L:=⟨[],[]⟩) (fn:=Tryz.f172) (N:=N) (Ag ⟨aF N,trivial⟩)
def AbC:List (Nat×Nrm):=[(3,⟨[7],[([7],9,(.str .nil),1004096)],[],[(1000000,1004096)],[]⟩),(34,⟨[7,36,37,38],[([7],9,(.str .nil),1000000)],[],[(45056,1000000)],[]⟩)]
def AdA:Lk:=⟨[],[(34,⟨[(7,.c (xo 1000000)),(36,.c (xo 41728)),(37,.i),(38,.c x64)],[(41728,.arr 3 false (.int .i64 .nil)),(1000000,.arr 9 false (.str .nil))]⟩,[(0,⟨[(7,.c (xo 1004096))],[(1004096,.arr 9 false (.str .nil))]⟩)])]⟩
def Uk (N:Nat):Sig:=.of [.cell false .str] [.cell false .str,.cell false (.int .i64)] (fun a=>OH N a)
theorem V5 (N:Nat):Spec Tryz.prog 237 (Uk N):=Ad (C:=ctx Tryz.prog [(268,Z5 N),(269,Yc N),(215,Qg N)] AbC) (L:=AdA) (fn:=Tryz.f237) (N:=N) (Ag ⟨pY N,kR N,RI N,trivial⟩)
def lT (N:Nat):Sig:=.of [.cell false .str] [.cell false .str,.cell false (.int .i64),.cell false (.int .i64)] (fun a=>V9 N a)
theorem Aae (N:Nat):Spec Tryz.prog 223 (lT N):=Ad (C:=ctx Tryz.prog [(264,gB N)] []) (L:=⟨[],[]⟩) (fn:=Tryz.f223) (N:=N) (Ag ⟨wE N,trivial⟩)
def dH:List (Nat×Nrm):=[(29,⟨[8,9],[],[],[],[]⟩)]
def jV:Lk:=⟨[(29,⟨[(8,.i),(9,.c x64)],[(0,.box [(xl Tq6)])]⟩)],[]⟩
def Ry (N:Nat):Sig:=.of [P9,.cell false (.int .i64)] [.cell false .bool,.cell false (.int .i64)] (fun a=>Kz N a.1 a.2)
theorem Y8 (N:Nat):Spec Tryz.prog 191 (Ry N):=Ad (C:=ctx Tryz.prog [(173,Hm N),(234,XW N)] dH) (L:=jV) (fn:=Tryz.f191) (N:=N) (Ag ⟨Hz N,kK N,trivial⟩)
end
noncomputable section
def Rf (N:Nat):Sig:=.of [.cell false (.int .u8)] [.cell false .bool] (fun a=>IA N a)
theorem Ua (N:Nat):Spec Tryz.prog 299 (Rf N):=Ad (C:=ctx Tryz.prog [] [] [] [] [] [5,8,9,12,15,16]) (L:=⟨[],[]⟩) (fn:=Tryz.f299) (N:=N) (Ag trivial)
def TZ (N:Nat):Sig:=.of [.cell false (.int .u8)] [.cell false .bool] (fun a=>Iq N a)
theorem Vq (N:Nat):Spec Tryz.prog 300 (TZ N):=Ad (C:=ctx Tryz.prog [] []) (L:=⟨[],[]⟩) (fn:=Tryz.f300) (N:=N) (Ag trivial)
def Zw (N:Nat):Sig:=.of [.cell false .str] [.cell false .str,.cell false .str] (fun a=>Qn N a)
theorem oP (N:Nat):Spec Tryz.prog 277 (Zw N):=Ad (C:=ctx Tryz.prog [] []) (L:=⟨[],[]⟩) (fn:=Tryz.f277) (N:=N) (Ag trivial)
def uD (N:Nat):Sig:=.of [.cell false .str,.cell false (.int .i64)] [.cell false .bool] (fun a=>PY N a.1 a.2)
theorem Abx (N:Nat):Spec Tryz.prog 278 (uD N):=Ad (C:=ctx Tryz.prog [] []) (L:=⟨[],[]⟩) (fn:=Tryz.f278) (N:=N) (Ag trivial)
def XI (N:Nat):Sig:=.of [.cell false .str] [.cell false .bool] (fun a=>KX N a)
theorem kG (N:Nat):Spec Tryz.prog 250 (XI N):=Ad (C:=ctx Tryz.prog [] []) (L:=⟨[],[]⟩) (fn:=Tryz.f250) (N:=N) (Ag trivial)
def Lt (N:Nat):Sig:=.of [] [.cell false (.sl 92 Tq4)] (fun _=>Gm N)
theorem MF (N:Nat):Spec Tryz.prog 44 (Lt N):=Ad (C:=ctx Tryz.prog [] []) (L:=⟨[],[]⟩) (fn:=Tryz.f44) (N:=N) (Ag trivial)
def X8 (N:Nat):Sig:=.of [.cell false (.int .i64)] [.cell false .bool] (fun a=>Ez N a)
theorem jS (N:Nat):Spec Tryz.prog 53 (X8 N):=Ad (C:=ctx Tryz.prog [] []) (L:=⟨[],[]⟩) (fn:=Tryz.f53) (N:=N) (Ag trivial)
def lY (N:Nat):Sig:=.of [.cell false (.int .i64)] [.cell false (.int .i64)] (fun a=>iE N a)
theorem Aaw (N:Nat):Spec Tryz.prog 279 (lY N):=Ad (C:=ctx Tryz.prog [] []) (L:=⟨[],[]⟩) (fn:=Tryz.f279) (N:=N) (Ag trivial)
end
noncomputable section
def AeQ:List (Nat×Nrm):=[(3,⟨[4],[([4],3,(.int .i64 .nil),1004096)],[],[(1000000,1004096)],[]⟩),(26,⟨[4,18,19,20],[([4],3,(.int .i64 .nil),1000000)],[],[(40704,1000000)],[]⟩)]
def Aht:Lk:=⟨[],[(26,⟨[(4,.c (xo 1000000)),(18,.i),(19,.i),(20,.c x64)],[(1000000,.arr 3 false (.int .i64 .nil))]⟩,[(0,⟨[(4,.c (xo 1004096))],[(1004096,.arr 3 false (.int .i64 .nil))]⟩)])]⟩
def YX (N:Nat):Sig:=.of [.cell false .str] [Sq3] (fun a=>Um N a)
theorem Z4 (N:Nat):Spec Tryz.prog 204 (YX N):=Ad (C:=ctx Tryz.prog [(242,KE N),(243,AaP N),(244,vJ N)] AeQ) (L:=Aht) (fn:=Tryz.f204) (N:=N) (Ag ⟨QN N,AdE N,AbG N,trivial⟩)
def Aas (N:Nat):Sig:=.of [.cell false (.int .u8)] [.cell false .bool] (fun a=>Jk N a)
theorem kU (N:Nat):Spec Tryz.prog 285 (Aas N):=Ad (C:=ctx Tryz.prog [(286,ZB N),(287,Kt N)] []) (L:=⟨[],[]⟩) (fn:=Tryz.f285) (N:=N) (Ag ⟨qQ N,MW N,trivial⟩)
def Ab0:List (Nat×Nrm):=[(3,⟨[],[],[],[],[]⟩),(18,⟨[27,28,29],[],[],[],[]⟩)]
def Adj:Lk:=⟨[],[(18,⟨[(27,.c (xo 39680)),(28,.i),(29,.c x64)],[(39680,.arr 5 false (.int .u8 .nil))]⟩,[(0,⟨[],[]⟩)])]⟩
def eQ (N:Nat):Sig:=.of [.cell false .str] [.cell false .bool] (fun a=>Sm N a)
theorem uF (N:Nat):Spec Tryz.prog 296 (eQ N):=Ad (C:=ctx Tryz.prog [(299,Rf N),(300,TZ N)] Ab0 [] [] [] [8,12,13,17,18,25]) (L:=Adj) (fn:=Tryz.f296) (N:=N) (Ag ⟨Ua N,Vq N,trivial⟩)
def Ab3:List (Nat×Nrm):=[(3,⟨[],[],[],[],[]⟩),(18,⟨[32,33,34],[],[],[],[]⟩)]
def Adl:Lk:=⟨[],[(18,⟨[(32,.c (xo 40960)),(33,.i),(34,.c x64)],[(40960,.arr 5 false (.int .u8 .nil))]⟩,[(0,⟨[],[]⟩)])]⟩
def eU (N:Nat):Sig:=.of [.cell false .str] [.cell false .bool] (fun a=>O9 N a)
theorem uG (N:Nat):Spec Tryz.prog 274 (eU N):=Ad (C:=ctx Tryz.prog [(276,Ll N),(299,Rf N),(300,TZ N),(287,Kt N)] Ab3 [] [] [] [9,13,14,18,19,26,27,30]) (L:=Adl) (fn:=Tryz.f274) (N:=N) (Ag ⟨NY N,Ua N,Vq N,MW N,trivial⟩)
def Abw:List (Nat×Nrm):=[(3,⟨[],[],[],[],[]⟩),(26,⟨[3,4,5,6],[],[],[],[]⟩)]
def Adg:Lk:=⟨[],[(26,⟨[(3,.i),(4,.i),(5,.c xb),(6,.c x64)],[]⟩,[(0,⟨[],[]⟩)])]⟩
def eP (N:Nat):Sig:=.of [.cell false .str] [.cell false .bool] (fun a=>O8 N a)
theorem uC (N:Nat):Spec Tryz.prog 249 (eP N):=Ad (C:=ctx Tryz.prog [(277,Zw N),(278,uD N)] Abw [] [] [] [32,34,35,38,42,43]) (L:=Adg) (fn:=Tryz.f249) (N:=N) (Ag ⟨oP N,Abx N,trivial⟩)
def rO:List (Nat×Nrm):=[(3,⟨[2],[],[],[],[]⟩),(10,⟨[0,2,6,7,8],[],[],[],[]⟩)]
def xZ:Lk:=⟨[],[(10,⟨[(0,.i),(2,.c (.c (.ptr 33280 0))),(6,.i),(7,.i),(8,.c x64)],[(33280,.box [(.c (.str ([]:Bs))),(.c (.int .i64 0)),(.c (.fn 0)),(.c (.fn 0)),(.c (.fn 0))])]⟩,[(0,⟨[(2,.c (.c (.ptr 33280 0)))],[(33280,.box [(.c (.str ([]:Bs))),(.c (.int .i64 0)),(.c (.fn 0)),(.c (.fn 0)),(.c (.fn 0))])]⟩)])]⟩
def PI (N:Nat):Sig:=.of [.cell false .str] [Sq8,.cell false .bool] (fun a=>Bq N a)
theorem Rx (N:Nat):Spec Tryz.prog 159 (PI N):=Ad (C:=ctx Tryz.prog [(44,Lt N)] rO) (L:=xZ) (fn:=Tryz.f159) (N:=N) (Ag ⟨MF N,trivial⟩)
def Afi:List (Nat×Nrm):=[(3,⟨[0,2,5,6,7,8,9],[],[],[],[]⟩),(74,⟨[0,2,5,6,7,8,9,50,51,52],[],[],[],[]⟩),(101,⟨[0,2,5,6,7,8],[],[],[],[]⟩)]
def AhR:Lk:=⟨[(101,⟨[(0,.i),(2,.c (.c (.ptr 33280 0))),(5,.c (.c (.ptr 34048 0))),(6,.i),(7,.c x64),(8,.c x64)],[(33280,.box [(.c (.int .i64 0)),(.c (.str ([]:Bs))),(.c (.str ([]:Bs)))]),(34048,.box [(.c (.int .i64 0)),(.c (.str ([]:Bs))),(.c (.str ([]:Bs)))])]⟩)],[(74,⟨[(0,.i),(2,.c (.c (.ptr 33280 0))),(5,.c (.c (.ptr 34048 0))),(6,.i),(7,.c x64),(8,.i),(9,.i),(50,.c (xo 45568)),(51,.i),(52,.c x64)],[(33280,.box [(.c (.int .i64 0)),(.c (.str ([]:Bs))),(.c (.str ([]:Bs)))]),(34048,.box [(.c (.int .i64 0)),(.c (.str ([]:Bs))),(.c (.str ([]:Bs)))]),(45568,.arr 5 false (.int .u8 .nil))]⟩,[(0,⟨[(0,.i),(2,.c (.c (.ptr 33280 0))),(5,.c (.c (.ptr 34048 0))),(6,.i),(7,.c x64),(8,.i),(9,.i)],[(33280,.box [(.c (.int .i64 0)),(.c (.str ([]:Bs))),(.c (.str ([]:Bs)))]),(34048,.box [(.c (.int .i64 0)),(.c (.str ([]:Bs))),(.c (.str ([]:Bs)))])]⟩)])]⟩
def SL (N:Nat):Sig:=.of [.cell false .str] [Sq9,.cell false .str,.cell false (.int .i64)] (fun a=>NH N a)
theorem Rk (N:Nat):Spec Tryz.prog 251 (SL N):=Ad (C:=ctx Tryz.prog [(279,lY N)] Afi) (L:=AhR) (fn:=Tryz.f251) (N:=N) (Ag ⟨Aaw N,trivial⟩)
end
noncomputable section
def nC (N:Nat):Sig:=.of [Sq2] [.cell false .bool] (fun a=>PK N a)
theorem ZT (N:Nat):Spec Tryz.prog 110 (nC N):=Ad (C:=ctx Tryz.prog [] []) (L:=⟨[],[]⟩) (fn:=Tryz.f110) (N:=N) (Ag trivial)
def nG (N:Nat):Sig:=.of [Sq2] [.cell false .bool] (fun a=>PL N a)
theorem ZU (N:Nat):Spec Tryz.prog 113 (nG N):=Ad (C:=ctx Tryz.prog [] []) (L:=⟨[],[]⟩) (fn:=Tryz.f113) (N:=N) (Ag trivial)
def nI (N:Nat):Sig:=.of [Sq2] [.cell false .bool] (fun a=>PM N a)
theorem ZV (N:Nat):Spec Tryz.prog 116 (nI N):=Ad (C:=ctx Tryz.prog [] []) (L:=⟨[],[]⟩) (fn:=Tryz.f116) (N:=N) (Ag trivial)
def nK (N:Nat):Sig:=.of [Sq2] [.cell false .bool] (fun a=>PN N a)
theorem ZW (N:Nat):Spec Tryz.prog 119 (nK N):=Ad (C:=ctx Tryz.prog [] []) (L:=⟨[],[]⟩) (fn:=Tryz.f119) (N:=N) (Ag trivial)
def nN (N:Nat):Sig:=.of [Sq2] [.cell false .bool] (fun a=>PO N a)
theorem ZX (N:Nat):Spec Tryz.prog 122 (nN N):=Ad (C:=ctx Tryz.prog [] []) (L:=⟨[],[]⟩) (fn:=Tryz.f122) (N:=N) (Ag trivial)
def nP (N:Nat):Sig:=.of [Sq2] [.cell false .bool] (fun a=>IX N a)
theorem ZY (N:Nat):Spec Tryz.prog 125 (nP N):=Ad (C:=ctx Tryz.prog [] []) (L:=⟨[],[]⟩) (fn:=Tryz.f125) (N:=N) (Ag trivial)
def nS (N:Nat):Sig:=.of [Sq2] [.cell false .bool] (fun a=>PQ N a)
theorem ZZ (N:Nat):Spec Tryz.prog 128 (nS N):=Ad (C:=ctx Tryz.prog [] []) (L:=⟨[],[]⟩) (fn:=Tryz.f128) (N:=N) (Ag trivial)
def nU (N:Nat):Sig:=.of [Sq2] [.cell false .bool] (fun a=>PR N a)
theorem aA (N:Nat):Spec Tryz.prog 131 (nU N):=Ad (C:=ctx Tryz.prog [] []) (L:=⟨[],[]⟩) (fn:=Tryz.f131) (N:=N) (Ag trivial)
end
noncomputable section
def nX (N:Nat):Sig:=.of [Sq2] [.cell false .bool] (fun a=>PS N a)
theorem aB (N:Nat):Spec Tryz.prog 134 (nX N):=Ad (C:=ctx Tryz.prog [] []) (L:=⟨[],[]⟩) (fn:=Tryz.f134) (N:=N) (Ag trivial)
def jK (N:Nat):Sig:=.of [Sq2] [.cell false .bool] (fun a=>Oj N a)
theorem Y2 (N:Nat):Spec Tryz.prog 137 (jK N):=Ad (C:=ctx Tryz.prog [] []) (L:=⟨[],[]⟩) (fn:=Tryz.f137) (N:=N) (Ag trivial)
def jM (N:Nat):Sig:=.of [Sq2] [.cell false .bool] (fun a=>Ol N a)
theorem Y3 (N:Nat):Spec Tryz.prog 140 (jM N):=Ad (C:=ctx Tryz.prog [] []) (L:=⟨[],[]⟩) (fn:=Tryz.f140) (N:=N) (Ag trivial)
def jP (N:Nat):Sig:=.of [Sq2] [.cell false .bool] (fun a=>Om N a)
theorem Y4 (N:Nat):Spec Tryz.prog 143 (jP N):=Ad (C:=ctx Tryz.prog [] []) (L:=⟨[],[]⟩) (fn:=Tryz.f143) (N:=N) (Ag trivial)
def jR (N:Nat):Sig:=.of [Sq2] [.cell false .bool] (fun a=>Oo N a)
theorem Y5 (N:Nat):Spec Tryz.prog 146 (jR N):=Ad (C:=ctx Tryz.prog [] []) (L:=⟨[],[]⟩) (fn:=Tryz.f146) (N:=N) (Ag trivial)
def Ny (N:Nat):Sig:=.of [.box [(false,.bool)]] [.cell false .bool] (fun a=>Jb N a)
theorem P5 (N:Nat):Spec Tryz.prog 45 (Ny N):=Ad (C:=ctx Tryz.prog [] []) (L:=⟨[],[]⟩) (fn:=Tryz.f45) (N:=N) (Ag trivial)
def Dq (N:Nat):Sig:=.of [.box [(false,.bool)],.cell false .str,.cell false (.int .i64)] [.cell false .str] (fun a=>BK N a.1 a.2.1 a.2.2)
theorem Di (N:Nat):Spec Tryz.prog 71 (Dq N):=Ad (C:=ctx Tryz.prog [] []) (L:=⟨[],[]⟩) (fn:=Tryz.f71) (N:=N) (Ag trivial)
def Afj:List (Nat×Nrm):=[(3,⟨[0,1,6],[],[],[],[]⟩),(22,⟨[0,1,6,21,22,23],[],[],[],[]⟩),(77,⟨[1,9],[],[],[(45568,1008192),(47616,1008192),(49664,1008192),(52480,1008192)],[]⟩)]
def AhT:Lk:=⟨[(77,⟨[(1,.i),(9,.c (xo 1008192))],[(1008192,.arr 5 false (.int .u8 .nil))]⟩)],[(22,⟨[(0,.i),(1,.i),(6,.c x64),(21,.i),(22,.i),(23,.c x64)],[]⟩,[(0,⟨[(0,.i),(1,.i),(6,.c x64)],[]⟩)])]⟩
def JA (N:Nat):Sig:=.of [.cell false (.int .i64),Sq1] [.cell false .str,.cell false (.int .i64)] (fun a=>Cb N a.1 a.2)
theorem Ii (N:Nat):Spec Tryz.prog 164 (JA N):=Ad (C:=ctx Tryz.prog [(215,Qg N)] Afj) (L:=AhT) (fn:=Tryz.f164) (N:=N) (Ag ⟨RI N,trivial⟩)
end
noncomputable section
def dI (N n:Nat):Sig:=.of [Sq2] [.cell false .bool] (iM N n)
theorem rZ (N:Nat):RJ Tryz.prog (dI N):=SQ (Af:=[Sq2]) (Az:=[.cell false .bool]) (l:=[(110,fun a=>PK N a),(113,fun a=>PL N a),(116,fun a=>PM N a),(119,fun a=>PN N a),(122,fun a=>PO N a),(125,fun a=>IX N a),(128,fun a=>PQ N a),(131,fun a=>PR N a),(134,fun a=>PS N a),(137,fun a=>Oj N a),(140,fun a=>Ol N a),(143,fun a=>Om N a),(146,fun a=>Oo N a)]) ⟨ZT N,ZU N,ZV N,ZW N,ZX N,ZY N,ZZ N,aA N,aB N,Y2 N,Y3 N,Y4 N,Y5 N,trivial⟩
def Dc (N:Nat):Sig:=.of [.box [(false,.bool)],.cell false (.int .i64),Sq1] [.cell false .str] (fun a=>Aj N a.1 a.2.1 a.2.2)
theorem CE (N:Nat):Spec Tryz.prog 70 (Dc N):=Ad (C:=ctx Tryz.prog [(164,JA N),(71,Dq N)] []) (L:=⟨[],[]⟩) (fn:=Tryz.f70) (N:=N) (Ag ⟨Ii N,Di N,trivial⟩)
def Ue (N:Nat):Sig:=.of [Td] [Akx] (fun a=>LP N a)
theorem aK (N:Nat):Spec Tryz.prog 188 (Ue N):=Ad (C:=ctx Tryz.prog [(33,Dk N)] []) (L:=⟨[],[]⟩) (fn:=Tryz.f188) (N:=N) (Ag ⟨CV N,trivial⟩)
def Ad0:List (Nat×Nrm):=[(3,⟨[5],[([5],9,(.str .nil),1016384)],[],[(1000000,1016384)],[]⟩),(11,⟨[0,1,5,6,7,8],[([5],9,(.str .nil),1012288)],[],[(1008192,1012288)],[]⟩),(14,⟨[0,1,5,6],[([5],9,(.str .nil),1000000)],[],[(44288,1000000),(1012288,1000000)],[]⟩),(33,⟨[0,1,5,6,7],[([5],9,(.str .nil),1004096)],[],[(1000000,1004096)],[]⟩),(42,⟨[0,1,5,6,7,8,27,28,29],[([5,27],9,(.str .nil),1008192)],[],[(1004096,1008192)],[]⟩)]
def AeJ:Lk:=⟨[(33,⟨[(0,.c (.c (.ptr 0 0))),(1,.i),(5,.c (xo 1004096)),(6,.i),(7,.c xs)],[(0,.box [(xl (.int .i64 .nil)),x64]),(1004096,.arr 9 false (.str .nil))]⟩)],[(14,⟨[(0,.c (.c (.ptr 0 0))),(1,.i),(5,.c (xo 1000000)),(6,.c x64)],[(0,.box [(xl (.int .i64 .nil)),x64]),(1000000,.arr 9 false (.str .nil))]⟩,[(0,⟨[(5,.c (xo 1016384))],[(0,.box [(xl (.int .i64 .nil)),x64]),(1016384,.arr 9 false (.str .nil))]⟩)]),(42,⟨[(0,.c (.c (.ptr 0 0))),(1,.i),(5,.c (xo 1008192)),(6,.i),(7,.i),(8,.c xb),(27,.c (xo 1008192)),(28,.i),(29,.c x64)],[(0,.box [(xl (.int .i64 .nil)),x64]),(1008192,.arr 9 false (.str .nil))]⟩,[(2,⟨[(0,.c (.c (.ptr 0 0))),(1,.i),(5,.c (xo 1012288)),(6,.i),(7,.i),(8,.c xb)],[(0,.box [(xl (.int .i64 .nil)),x64]),(1012288,.arr 9 false (.str .nil))]⟩)])]⟩
def lL (N:Nat):Sig:=.of [Td,.cell false .bool] [ApD] (fun a=>QK N a.1 a.2)
theorem zW (N:Nat):Spec Tryz.prog 96 (lL N):=Ad (C:=ctx Tryz.prog [(33,Dk N),(41,Rh N)] Ad0) (L:=AeJ) (fn:=Tryz.f96) (N:=N) (Ag ⟨CV N,Ud N,trivial⟩)
def pM:List (Nat×Nrm):=[(3,⟨[3],[([3],74,(.str (.str .nil)),1012288)],[],[(1000000,1012288)],[]⟩),(11,⟨[0,3,4,5,6],[([3],74,(.str (.str .nil)),1008192)],[],[(1004096,1008192)],[]⟩),(14,⟨[0,3,4],[([3],74,(.str (.str .nil)),1000000)],[],[(43264,1000000),(1008192,1000000)],[]⟩),(34,⟨[0,3,4,5,6,23,24,25],[([3,23],74,(.str (.str .nil)),1004096)],[],[(1000000,1004096)],[]⟩)]
def uV:Lk:=⟨[],[(14,⟨[(0,.c (.c (.ptr 0 0))),(3,.c (xo 1000000)),(4,.c x64)],[(0,.box [(xl (.int .i64 .nil)),x64]),(1000000,.arr 74 false (.str (.str .nil)))]⟩,[(0,⟨[(3,.c (xo 1012288))],[(0,.box [(xl (.int .i64 .nil)),x64]),(1012288,.arr 74 false (.str (.str .nil)))]⟩)]),(34,⟨[(0,.c (.c (.ptr 0 0))),(3,.c (xo 1004096)),(4,.i),(5,.c (.c (.ptr 34048 0))),(6,.c xb),(23,.c (xo 1004096)),(24,.i),(25,.c x64)],[(0,.box [(xl (.int .i64 .nil)),x64]),(34048,.box [xs,xs]),(1004096,.arr 74 false (.str (.str .nil)))]⟩,[(2,⟨[(0,.c (.c (.ptr 0 0))),(3,.c (xo 1008192)),(4,.i),(5,.c (.c (.ptr 34048 0))),(6,.c xb)],[(0,.box [(xl (.int .i64 .nil)),x64]),(34048,.box [xs,xs]),(1008192,.arr 74 false (.str (.str .nil)))]⟩)])]⟩
def Vx (N:Nat):Sig:=.of [Td] [ApE] (fun a=>Nl N a)
theorem fH (N:Nat):Spec Tryz.prog 97 (Vx N):=Ad (C:=ctx Tryz.prog [(33,Dk N),(41,Rh N)] pM) (L:=uV) (fn:=Tryz.f97) (N:=N) (Ag ⟨CV N,Ud N,trivial⟩)
def kJ:List (Nat×Nrm):=[(17,⟨[0,2,3],[],[],[],[]⟩)]
def oZ:Lk:=⟨[(17,⟨[(0,.i),(2,.c (.c (.ptr 33280 0))),(3,.c xs)],[(33280,.box [(xo 33281)]),(33281,.Bg 175 false (.sl 177 Tq0 .nil))]⟩)],[]⟩
def Uc (N:Nat):Sig:=.of [.cell false (.int .i64)] [Sq0] (fun a=>Jf N a)
theorem aJ (N:Nat):Spec Tryz.prog 180 (Uc N):=Ad (C:=ctx Tryz.prog [(227,lV N)] kJ) (L:=oZ) (fn:=Tryz.f180) (N:=N) (Ag ⟨Aan N,trivial⟩)
end
noncomputable section
def JW (N:Nat):Sig:=.of [.cell false .str] [.cell false .bool] (fun a=>BF N a)
theorem Jh (N:Nat):Spec Tryz.prog 156 (JW N):=Ad (C:=ctx Tryz.prog [(204,YX N)] []) (L:=⟨[],[]⟩) (fn:=Tryz.f156) (N:=N) (Ag ⟨Z4 N,trivial⟩)
def Aa8 (N n:Nat):Sig:=.of [.cell false (.int .u8)] [.cell false .bool] (iP N n)
theorem Agz (N:Nat):RJ Tryz.prog (Aa8 N):=SQ (Af:=[.cell false (.int .u8)]) (Az:=[.cell false .bool]) (l:=[(285,fun a=>Jk N a),(288,fun a=>Jl N a)]) ⟨kU N,kV N,trivial⟩
def Ae9:List (Nat×Nrm):=[(3,⟨[],[],[],[],[]⟩),(18,⟨[9,10,11],[],[],[],[]⟩)]
def AgH:Lk:=⟨[],[(18,⟨[(9,.i),(10,.i),(11,.c x64)],[]⟩,[(0,⟨[],[]⟩)])]⟩
def O7 (N:Nat):Sig:=.of [.cell false .str] [.cell false .bool] (fun a=>Gz N a)
theorem Nc (N:Nat):Spec Tryz.prog 271 (O7 N):=Ad (C:=ctx Tryz.prog [(242,KE N),(296,eQ N)] Ae9) (L:=AgH) (fn:=Tryz.f271) (N:=N) (Ag ⟨QN N,uF N,trivial⟩)
def QO (N:Nat):Sig:=.of [.cell false .str] [Sq9,.cell false (.int .i64)] (fun a=>NZ N a)
theorem Pv (N:Nat):Spec Tryz.prog 207 (QO N):=Ad (C:=ctx Tryz.prog [(251,SL N)] []) (L:=⟨[],[]⟩) (fn:=Tryz.f207) (N:=N) (Ag ⟨Rk N,trivial⟩)
def AbW:List (Nat×Nrm):=[(3,⟨[],[],[],[],[]⟩),(18,⟨[1,5],[],[],[],[]⟩)]
def Aem:Lk:=⟨[],[(18,⟨[(1,.i),(5,.c xs)],[]⟩,[(0,⟨[],[]⟩)])]⟩
def Rl (N n:Nat):Sig:=.of [Sq9,.cell false (.int .i64)] [.cell false (.int .i64)] (fun a=>JB N n a.1 a.2)
theorem UC (N:Nat): ∀ n,Spec Tryz.prog 208 (Rl N n)
  | 0=>Abd (C:=ctx Tryz.prog [] []) (fn:=Tryz.f208) (Ag (gs:=[]) trivial) (by kernel_rfl) (by kernel_rfl)
  | n+1=>Ad (C:=ctx Tryz.prog ((208,Rl N n)::[(251,SL N)]) AbW) (L:=Aem) (fn:=Tryz.f208) (N:=N) (Ag ⟨UC N n,⟨Rk N,trivial⟩⟩)
def iF (N:Nat):Sig:=Rl N N
theorem xC (N:Nat):Spec Tryz.prog 208 (iF N):=UC N N
def DD (N:Nat):Sig:=.of [.box [(false,.bool)],Sq1] [.cell false .str] (fun a=>AZ N a.1 a.2)
theorem Dp (N:Nat):Spec Tryz.prog 75 (DD N):=Ad (C:=ctx Tryz.prog [(70,Dc N)] []) (L:=⟨[],[]⟩) (fn:=Tryz.f75) (N:=N) (Ag ⟨CE N,trivial⟩)
def Nz (N:Nat):Sig:=.of [.box [(false,.bool)],.cell false (.int .i64)] [.cell false .str] (fun a=>Jc N a.1 a.2)
theorem P6 (N:Nat):Spec Tryz.prog 189 (Nz N):=Ad (C:=ctx Tryz.prog [(199,MH N),(70,Dc N)] []) (L:=⟨[],[]⟩) (fn:=Tryz.f189) (N:=N) (Ag ⟨OT N,CE N,trivial⟩)
end
noncomputable section
def Afh:List (Nat×Nrm):=[(3,⟨[4],[([4],123,Tq6,1004096)],[],[(1000000,1004096)],[]⟩),(10,⟨[0,4],[([4],123,Tq6,1000000)],[],[(38400,1000000)],[]⟩)]
def AhP:Lk:=⟨[],[(10,⟨[(0,.c xs),(4,.c (xo 1000000))],[(1000000,.arr 123 false Tq6)]⟩,[(0,⟨[(4,.c (xo 1004096))],[(1004096,.arr 123 false Tq6)]⟩)])]⟩
def I4 (N:Nat):Sig:=.of [.cell false .str] [.cell false (.sl 123 Tq6),.cell false (.int .i64)] (fun a=>DR N a)
theorem G6 (N:Nat):Spec Tryz.prog 220 (I4 N):=Ad (C:=ctx Tryz.prog [(251,SL N)] Afh) (L:=AhP) (fn:=Tryz.f220) (N:=N) (Ag ⟨Rk N,trivial⟩)
def AbH:List (Nat×Nrm):=[(3,⟨[8],[],[],[],[]⟩),(46,⟨[4,8,35,36],[],[],[],[]⟩)]
def AdK:Lk:=⟨[],[(46,⟨[(4,.i),(8,.c x64),(35,.i),(36,.c x64)],[]⟩,[(0,⟨[(8,.c x64)],[]⟩)])]⟩
def Us (N:Nat):Sig:=.of [.cell false .str] [.cell false (.int .i64),.cell false (.int .i64)] (fun a=>LQ N a)
theorem VA (N:Nat):Spec Tryz.prog 175 (Us N):=Ad (C:=ctx Tryz.prog [(223,lT N),(224,wC N)] AbH) (L:=AdK) (fn:=Tryz.f175) (N:=N) (Ag ⟨Aae N,AbI N,trivial⟩)
end
noncomputable section
def Aff:List (Nat×Nrm):=[(3,⟨[],[],[],[],[]⟩),(10,⟨[0,1,5],[],[],[],[]⟩)]
def AhN:Lk:=⟨[],[(10,⟨[(0,.i),(1,.i),(5,.c x64)],[]⟩,[(0,⟨[],[]⟩)])]⟩
def wY (N:Nat):Sig:=.of [.cell false .str,.cell false .fn] [.cell false .bool] (fun a=>NG N a.1 a.2)
theorem AbS (N:Nat):Spec Tryz.prog 284 (wY N):=Ad (C:=ctx Tryz.prog [] Aff [] [(12,Aa8 N)]) (L:=AhN) (fn:=Tryz.f284) (N:=N) (Ag trivial trivial ⟨Agz N,trivial⟩)
def Wu (N:Nat):Sig:=.of [.cell false .str] [.cell false .bool] (fun a=>KY N a)
theorem XJ (N:Nat):Spec Tryz.prog 246 (Wu N):=Ad (C:=ctx Tryz.prog [(273,Z9 N),(274,eU N),(271,O7 N)] [] [] [] [] [13,17,18,21,22,25]) (L:=⟨[],[]⟩) (fn:=Tryz.f246) (N:=N) (Ag ⟨qL N,uG N,Nc N,trivial⟩)
def lG (N:Nat):Sig:=.of [.cell false .str] [.cell false .bool] (fun a=>QF N a)
theorem zI (N:Nat):Spec Tryz.prog 247 (lG N):=Ad (C:=ctx Tryz.prog [(271,O7 N)] []) (L:=⟨[],[]⟩) (fn:=Tryz.f247) (N:=N) (Ag ⟨Nc N,trivial⟩)
def XK (N:Nat):Sig:=.of [.cell false .str] [.cell false .bool] (fun a=>KZ N a)
theorem kH (N:Nat):Spec Tryz.prog 248 (XK N):=Ad (C:=ctx Tryz.prog [(275,P8 N),(271,O7 N),(276,Ll N)] []) (L:=⟨[],[]⟩) (fn:=Tryz.f248) (N:=N) (Ag ⟨WL N,Nc N,NY N,trivial⟩)
def ZF:List (Nat×Nrm):=[(3,⟨[],[],[],[],[]⟩),(11,⟨[0,13,14,15],[],[],[],[]⟩),(18,⟨[0,13,14,15],[],[],[],[]⟩),(38,⟨[0,6,13,14,15,25,26,27],[],[],[],[]⟩)]
def bF:Lk:=⟨[],[(18,⟨[(0,.i),(13,.i),(14,.i),(15,.c x64)],[]⟩,[(0,⟨[],[]⟩)]),(38,⟨[(0,.i),(6,.i),(13,.i),(14,.i),(15,.i),(25,.i),(26,.i),(27,.c x64)],[]⟩,[(2,⟨[(0,.i),(13,.i),(14,.i),(15,.i)],[]⟩)])]⟩
def Q5 (N:Nat):Sig:=.of [Sq1,.cell false (.int .i64)] [.cell false (.int .i64)] (fun a=>Hf N a.1 a.2)
theorem WX (N:Nat):Spec Tryz.prog 54 (Q5 N):=Ad (C:=ctx Tryz.prog [(156,JW N)] ZF) (L:=bF) (fn:=Tryz.f54) (N:=N) (Ag ⟨Jh N,trivial⟩)
def Tu:List (Nat×Nrm):=[(3,⟨[],[],[],[],[]⟩),(11,⟨[0,10,11,12],[],[],[],[]⟩),(18,⟨[0,10,11,12],[],[],[],[]⟩),(38,⟨[0,4,10,11,12,29,30,31],[],[],[],[]⟩)]
def UF:Lk:=⟨[],[(18,⟨[(0,.i),(10,.i),(11,.i),(12,.c x64)],[]⟩,[(0,⟨[],[]⟩)]),(38,⟨[(0,.i),(4,.c (.c (.ptr 33792 0))),(10,.i),(11,.i),(12,.i),(29,.i),(30,.i),(31,.c x64)],[(33792,.box [xs,xs])]⟩,[(2,⟨[(0,.i),(10,.i),(11,.i),(12,.i)],[]⟩)])]⟩
def LZ (N:Nat):Sig:=.of [Sq6] [.cell false (.int .i64)] (fun a=>Gu N a)
theorem QS (N:Nat):Spec Tryz.prog 55 (LZ N):=Ad (C:=ctx Tryz.prog [(156,JW N)] Tu) (L:=UF) (fn:=Tryz.f55) (N:=N) (Ag ⟨Jh N,trivial⟩)
def WM (N:Nat):Sig:=.of [.cell false .str] [.cell false (.int .i64)] (fun a=>Iz N a)
theorem Yg (N:Nat):Spec Tryz.prog 160 (WM N):=Ad (C:=ctx Tryz.prog [(207,QO N),(208,iF N)] []) (L:=⟨[],[]⟩) (fn:=Tryz.f160) (N:=N) (Ag ⟨Pv N,xC N,trivial⟩)
end
noncomputable section
def Rz (N:Nat):Sig:=.of [.box [(false,.bool)],.cell false (.int .i64),.cell false .bool] [.cell false .str] (fun a=>Ip N a.1 a.2.1 a.2.2)
theorem Y9 (N:Nat):Spec Tryz.prog 190 (Rz N):=Ad (C:=ctx Tryz.prog [(233,RG N),(70,Dc N)] []) (L:=⟨[],[]⟩) (fn:=Tryz.f190) (N:=N) (Ag ⟨Za N,CE N,trivial⟩)
def dB (N:Nat):Sig:=.of [.box [(false,.bool)],Sq2] [.cell false .str] (fun a=>FQ N a.1 a.2)
theorem X7 (N:Nat):Spec Tryz.prog 114 (dB N):=Ad (C:=ctx Tryz.prog [(73,OQ N),(71,Dq N),(70,Dc N)] []) (L:=⟨[],[]⟩) (fn:=Tryz.f114) (N:=N) (Ag ⟨QM N,Di N,CE N,trivial⟩)
def AbD:List (Nat×Nrm):=[(3,⟨[5],[],[],[(37888,1004096),(1000000,1004096)],[]⟩),(26,⟨[5,22,23,24],[],[],[(37888,1000000),(40448,1000000)],[]⟩)]
def AdC:Lk:=⟨[],[(26,⟨[(5,.c (xo 1000000)),(22,.i),(23,.i),(24,.c x64)],[(1000000,.arr 5 true (.int .u8 .nil))]⟩,[(0,⟨[(5,.c (xo 1004096))],[(1004096,.arr 5 true (.int .u8 .nil))]⟩)])]⟩
def Ul (N:Nat):Sig:=.of [.cell false .str] [.cell false .str,.cell false (.int .i64)] (fun a=>OI N a)
theorem V6 (N:Nat):Spec Tryz.prog 236 (Ul N):=Ad (C:=ctx Tryz.prog [(204,YX N),(267,AaQ N)] AbD) (L:=AdC) (fn:=Tryz.f236) (N:=N) (Ag ⟨Z4 N,AdF N,trivial⟩)
def Y1 (N:Nat):Sig:=.of [.box [(false,.bool)],Sq2] [.cell false .str] (fun a=>EM N a.1 a.2)
theorem UR (N:Nat):Spec Tryz.prog 138 (Y1 N):=Ad (C:=ctx Tryz.prog [(70,Dc N)] []) (L:=⟨[],[]⟩) (fn:=Tryz.f138) (N:=N) (Ag ⟨CE N,trivial⟩)
def Adz:List (Nat×Nrm):=[(3,⟨[2,3],[],[],[(33637,1012288),(1000000,1012288)],[]⟩),(11,⟨[0,2,3,4,5],[([5],177,Tq0,1008192)],[],[(33637,1008208),(1004096,1008192),(1004112,1008208)],[]⟩),(14,⟨[0,2,3,4],[],[],[(33637,1000000),(44288,1000000)],[]⟩),(30,⟨[0,2,3,4,5,6],[([5],177,Tq0,1004096)],[],[(33637,1004112),(43008,1004096),(1000000,1004112)],[]⟩)]
def AeH:Lk:=⟨[],[(14,⟨[(0,.c (.c (.ptr 0 0))),(2,.c (.c (.ptr 33280 0))),(3,.c (.c (.ptr 33536 0))),(4,.c x64)],[(0,.box [(xl (.int .i64 .nil)),x64]),(33280,.box [(xo 33281)]),(33281,.Bg 175 false (.sl 177 Tq0 .nil)),(33536,.box [(xo 1000000)]),(1000000,.arr 175 false (.sl 177 Tq0 .nil))]⟩,[(0,⟨[(2,.c (.c (.ptr 33280 0))),(3,.c (.c (.ptr 33536 0)))],[(0,.box [(xl (.int .i64 .nil)),x64]),(33280,.box [(xo 33281)]),(33281,.Bg 175 false (.sl 177 Tq0 .nil)),(33536,.box [(xo 1012288)]),(1012288,.arr 175 false (.sl 177 Tq0 .nil))]⟩)]),(30,⟨[(0,.c (.c (.ptr 0 0))),(2,.c (.c (.ptr 33280 0))),(3,.c (.c (.ptr 33536 0))),(4,.i),(5,.c (xo 1004096)),(6,.c x64)],[(0,.box [(xl (.int .i64 .nil)),x64]),(33280,.box [(xo 33281)]),(33281,.Bg 175 false (.sl 177 Tq0 .nil)),(33536,.box [(xo 1004112)]),(1004096,.arr 177 false Tq0),(1004112,.arr 175 false (.sl 177 Tq0 .nil))]⟩,[(2,⟨[(0,.c (.c (.ptr 0 0))),(2,.c (.c (.ptr 33280 0))),(3,.c (.c (.ptr 33536 0))),(4,.i),(5,.c (xo 1008192))],[(0,.box [(xl (.int .i64 .nil)),x64]),(33280,.box [(xo 33281)]),(33281,.Bg 175 false (.sl 177 Tq0 .nil)),(33536,.box [(xo 1008208)]),(1008192,.arr 177 false Tq0),(1008208,.arr 175 false (.sl 177 Tq0 .nil))]⟩)])]⟩
def W9 (N:Nat):Sig:=.of [Td] [Sq0] (fun a=>QJ N a)
theorem XO (N:Nat):Spec Tryz.prog 109 (W9 N):=Ad (C:=ctx Tryz.prog [(33,Dk N),(188,Ue N)] Adz) (L:=AeH) (fn:=Tryz.f109) (N:=N) (Ag ⟨CV N,aK N,trivial⟩)
end
noncomputable section
def KR (N:Nat):Sig:=.of [.cell false .str,.cell false (.int .i64)] [Sq9,.cell false (.int .i64)] (fun a=>IY N a.1 a.2)
theorem IZ (N:Nat):Spec Tryz.prog 170 (KR N):=Ad (C:=ctx Tryz.prog [(207,QO N)] []) (L:=⟨[],[]⟩) (fn:=Tryz.f170) (N:=N) (Ag ⟨Pv N,trivial⟩)
def L6 (N:Nat):Alt:=.of [.cell false .str] [P9,.cell false (.int .i64)] [.cell false .ptr,.cell false (.int .i64)] (fun a=>Hl N a)
theorem TP (N:Nat):Spec Tryz.prog 171 (L6 N).1/\Spec Tryz.prog 171 (L6 N).2.1:=RQ (C:=ctx Tryz.prog [(220,I4 N)] []) (L:=⟨[],[]⟩) (fn:=Tryz.f171) (N:=N) (Ag ⟨G6 N,trivial⟩) (by kernel_rfl) (by kernel_rfl) (fun a=>by kernel_rfl)
end
noncomputable section
def Jt (N:Nat):Sig:=.of [.cell false .str] [.cell false (.int .i64),.cell false (.int .i64)] (fun a=>EK N a)
theorem JY (N:Nat):Spec Tryz.prog 192 (Jt N):=Ad (C:=ctx Tryz.prog [(235,XX N)] []) (L:=⟨[],[]⟩) (fn:=Tryz.f192) (N:=N) (Ag ⟨kL N,trivial⟩)
def AcF (N n:Nat):Sig:=.of [Sq1,xK] [] (Ais N n)
theorem Ait (N:Nat):RJ Tryz.prog (AcF N):=SQ (Af:=[Sq1,xK]) (Az:=[]) (l:=[(197,fun a=>IW N a.1 a.2)]) ⟨QU N,trivial⟩
def AcG (N n:Nat):Sig:=.of [Sq1,xK] [] (Aiu N n)
theorem Aiv (N:Nat):RJ Tryz.prog (AcG N):=SQ (Af:=[Sq1,xK]) (Az:=[]) (l:=[(198,fun a=>IV N a.1 a.2)]) ⟨QT N,trivial⟩
end
noncomputable section
def Kw (N:Nat):Sig:=.of [P9] [.cell false .str,.cell false (.int .i64)] (fun a=>Ib N a)
theorem KP (N:Nat):Spec Tryz.prog 195 (Kw N):=Ad (C:=ctx Tryz.prog [(172,IL N),(237,Uk N)] []) (L:=⟨[],[]⟩) (fn:=Tryz.f195) (N:=N) (Ag ⟨Jv N,V5 N,trivial⟩)
end
noncomputable section
def TT:List (Nat×Nrm):=[(85,⟨[2,4,5,7],[],[],[],[]⟩)]
def UT:Lk:=⟨[(85,⟨[(2,.c (.c (.ptr 33280 0))),(4,.c (.c (.ptr 33792 0))),(5,.i),(7,.i)],[(33280,.box [(.c (.str ([]:Bs))),(.c (.int .i64 0)),(.c (.str ([]:Bs)))]),(33792,.box [(.c (.str ([]:Bs))),(.c (.int .i64 0)),(.c (.str ([]:Bs)))])]⟩)],[]⟩
def Md (N:Nat):Sig:=.of [Sq9] [Akx,.cell false (.int .i64)] (fun a=>Gv N a)
theorem QV (N:Nat):Spec Tryz.prog 309 (Md N):=Ad (C:=ctx Tryz.prog [(220,I4 N),(237,Uk N)] TT) (L:=UT) (fn:=Tryz.f309) (N:=N) (Ag ⟨G6 N,V5 N,trivial⟩)
end
noncomputable section
def L9 (N:Nat):Alt:=.of [.cell false .str,.cell false (.int .i64)] [P9,.cell false (.int .i64)] [.cell false .ptr,.cell false (.int .i64)] (fun a=>Ju N a.1 a.2)
theorem Ou (N:Nat):Spec Tryz.prog 84 (L9 N).1/\Spec Tryz.prog 84 (L9 N).2.1:=RQ (C:=ctx Tryz.prog [(170,KR N)] [] [(171,L6 N)]) (L:=⟨[],[]⟩) (fn:=Tryz.f84) (N:=N) (Ag ⟨IZ N,trivial⟩ ⟨TP N,trivial⟩) (by kernel_rfl) (by kernel_rfl) (fun a=>by kernel_rfl)
def FH (N:Nat):Alt:=.of [P9] [P9,.cell false (.int .i64)] [.cell false .ptr,.cell false (.int .i64)] (fun a=>DJ N a)
theorem Ja (N:Nat):Spec Tryz.prog 86 (FH N).1/\Spec Tryz.prog 86 (FH N).2.1:=RQ (C:=ctx Tryz.prog [(172,IL N)] [] [(171,L6 N)]) (L:=⟨[],[]⟩) (fn:=Tryz.f86) (N:=N) (Ag ⟨Jv N,trivial⟩ ⟨TP N,trivial⟩) (by kernel_rfl) (by kernel_rfl) (fun a=>by kernel_rfl)
def UW:List (Nat×Nrm):=[(3,⟨[6],[([6],177,Tq0,1004096)],[],[(1000000,1004096)],[]⟩),(42,⟨[6,26,27,28],[([6],177,Tq0,1000000)],[],[(43776,1000000)],[]⟩)]
def Wn:Lk:=⟨[],[(42,⟨[(6,.c (xo 1000000)),(26,.i),(27,.i),(28,.c x64)],[(1000000,.arr 177 false Tq0)]⟩,[(0,⟨[(6,.c (xo 1004096))],[(1004096,.arr 177 false Tq0)]⟩)])]⟩
def ML (N:Nat):Sig:=.of [Sq9] [.cell false (.sl 177 Tq0),.cell false (.int .i64)] (fun a=>GK N a)
theorem RZ (N:Nat):Spec Tryz.prog 289 (ML N):=Ad (C:=ctx Tryz.prog [(220,I4 N),(308,VF N),(309,Md N)] UW) (L:=Wn) (fn:=Tryz.f289) (N:=N) (Ag ⟨G6 N,iD N,QV N,trivial⟩)
def bP (N:Nat):Sig:=.of [.cell false .str,MB] [.cell false (.int .i64)] (fun a=>EF N a.1 a.2)
theorem Xo (N:Nat):Spec Tryz.prog 115 (bP N):=Ad (C:=ctx Tryz.prog [(170,KR N),(175,Us N)] []) (L:=⟨[],[]⟩) (fn:=Tryz.f115) (N:=N) (Ag ⟨IZ N,VA N,trivial⟩)
end
noncomputable section
def ZM:List (Nat×Nrm):=[(17,⟨[0,3,5],[],[],[],[]⟩)]
def bW:Lk:=⟨[(17,⟨[(0,.c (.c (.ptr 0 0))),(3,.c (.c (.ptr 33536 0))),(5,.c xs)],[(0,.box [xb]),(33536,.box [xb,xb,x64,x64,(xl (.str .nil)),(xl (.str .nil)),(xl (.str (.str .nil))),x64,x64,x64,(xl Tq1),xb,(xl Tq1),(xl Tq1),xs,xs,(xl Tq2),(xl Tq2),(xl Tq3)])]⟩)],[]⟩
def bZ (N:Nat):Sig:=.of [.box [(false,.bool)],Sq2] [.cell false .str] (fun a=>FO N a.1 a.2)
theorem Xr (N:Nat):Spec Tryz.prog 111 (bZ N):=Ad (C:=ctx Tryz.prog [(189,Nz N),(190,Rz N),(75,DD N)] ZM) (L:=bW) (fn:=Tryz.f111) (N:=N) (Ag ⟨P6 N,Y9 N,Dp N,trivial⟩)
def Ky (N:Nat):Sig:=.of [.box [(false,.bool)],.cell false .str] [.cell false .str] (fun a=>Gy N a.1 a.2)
theorem KQ (N:Nat):Spec Tryz.prog 193 (Ky N):=Ad (C:=ctx Tryz.prog [(236,Ul N),(71,Dq N),(70,Dc N)] []) (L:=⟨[],[]⟩) (fn:=Tryz.f193) (N:=N) (Ag ⟨V6 N,Di N,CE N,trivial⟩)
def Yz:List (Nat×Nrm):=[(3,⟨[0,5],[],[],[],[]⟩),(14,⟨[0,5,13,14,15],[],[],[],[]⟩)]
def ZN:Lk:=⟨[],[(14,⟨[(0,.c (.c (.ptr 0 0))),(5,.c (xo 34816)),(13,.c (xo 36096)),(14,.i),(15,.c x64)],[(0,.box [xb]),(34816,.arr 9 false (.str .nil)),(36096,.arr 3 false (.int .i64 .nil))]⟩,[(0,⟨[(0,.c (.c (.ptr 0 0))),(5,.c (xo 34816))],[(0,.box [xb]),(34816,.arr 9 false (.str .nil))]⟩)])]⟩
def ZP (N:Nat):Sig:=.of [.box [(false,.bool)],Sq2] [.cell false .str] (fun a=>Fz N a.1 a.2)
theorem VY (N:Nat):Spec Tryz.prog 126 (ZP N):=Ad (C:=ctx Tryz.prog [(199,MH N),(70,Dc N),(75,DD N)] Yz) (L:=ZN) (fn:=Tryz.f126) (N:=N) (Ag ⟨OT N,CE N,Dp N,trivial⟩)
def Yy (N:Nat):Sig:=.of [.box [(false,.bool)],Sq2] [.cell false .str] (fun a=>EL N a.1 a.2)
theorem UQ (N:Nat):Spec Tryz.prog 129 (Yy N):=Ad (C:=ctx Tryz.prog [(189,Nz N)] []) (L:=⟨[],[]⟩) (fn:=Tryz.f129) (N:=N) (Ag ⟨P6 N,trivial⟩)
def Me (N:Nat):Sig:=.of [Akx] [.cell false .str,.cell false (.int .i64)] (fun a=>Gw N a)
theorem QW (N:Nat):Spec Tryz.prog 216 (Me N):=Ad (C:=ctx Tryz.prog [(236,Ul N),(164,JA N)] []) (L:=⟨[],[]⟩) (fn:=Tryz.f216) (N:=N) (Ag ⟨V6 N,Ii N,trivial⟩)
def VX (N:Nat):Sig:=.of [.box [(false,.bool)],Sq2] [.cell false .str] (fun a=>Ea N a.1 a.2)
theorem RY (N:Nat):Spec Tryz.prog 141 (VX N):=Ad (C:=ctx Tryz.prog [(70,Dc N),(75,DD N)] []) (L:=⟨[],[]⟩) (fn:=Tryz.f141) (N:=N) (Ag ⟨CE N,Dp N,trivial⟩)
def Qa (N:Nat):Sig:=.of [Td] [Sq4] (fun a=>Jg N a)
theorem RF (N:Nat):Spec Tryz.prog 43 (Qa N):=Ad (C:=ctx Tryz.prog [(33,Dk N),(109,W9 N)] []) (L:=⟨[],[]⟩) (fn:=Tryz.f43) (N:=N) (Ag ⟨CV N,XO N,trivial⟩)
def lJ (N:Nat):Sig:=.of [Td] [Sq4] (fun a=>NT N a)
theorem zT (N:Nat):Spec Tryz.prog 42 (lJ N):=Ad (C:=ctx Tryz.prog [(33,Dk N),(109,W9 N)] []) (L:=⟨[],[]⟩) (fn:=Tryz.f42) (N:=N) (Ag ⟨CV N,XO N,trivial⟩)
end
noncomputable section
def iC (N:Nat):Sig:=.of [.cell false (.int .i64),.cell false .str] [.cell false .bool] (fun a=>J9 N a.1 a.2)
theorem wX (N:Nat):Spec Tryz.prog 259 (iC N):=Ad (C:=ctx Tryz.prog [(283,wZ N),(284,wY N)] []) (L:=⟨[],[]⟩) (fn:=Tryz.f259) (N:=N) (Ag ⟨AbU N,AbS N,trivial⟩)
def Vp (N:Nat):Sig:=.of [.cell false .str] [.cell false .bool] (fun a=>JL N a)
theorem eG (N:Nat):Spec Tryz.prog 245 (Vp N):=Ad (C:=ctx Tryz.prog [(246,Wu N),(272,Ph N),(271,O7 N)] []) (L:=⟨[],[]⟩) (fn:=Tryz.f245) (N:=N) (Ag ⟨XJ N,Va N,Nc N,trivial⟩)
def UI:List (Nat×Nrm):=[(3,⟨[],[],[],[],[]⟩),(10,⟨[0,10,11,12],[],[],[],[]⟩),(11,⟨[0,4,10,11,12],[],[],[],[]⟩),(42,⟨[0,4,10,11,12,30,31,32],[],[],[],[]⟩)]
def VO:Lk:=⟨[],[(10,⟨[(0,.i),(10,.i),(11,.i),(12,.c x64)],[]⟩,[(0,⟨[],[]⟩)]),(42,⟨[(0,.i),(4,.c (.c (.ptr 33792 0))),(10,.i),(11,.i),(12,.i),(30,.i),(31,.i),(32,.c x64)],[(33792,.box [xs,xb,xs])]⟩,[(2,⟨[(0,.i),(4,.c (.c (.ptr 33792 0))),(10,.i),(11,.i),(12,.i)],[(33792,.box [xs,xb,xs])]⟩)])]⟩
def MK (N:Nat):Sig:=.of [.cell false (.sl 60 Tq3)] [.cell false (.int .i64)] (fun a=>Fa N a)
theorem RV (N:Nat):Spec Tryz.prog 58 (MK N):=Ad (C:=ctx Tryz.prog [(156,JW N),(159,PI N),(160,WM N)] UI) (L:=VO) (fn:=Tryz.f58) (N:=N) (Ag ⟨Jh N,Rx N,Yg N,trivial⟩)
def Wi:List (Nat×Nrm):=[(3,⟨[0,5],[([5],9,(.str .nil),1004096)],[],[(1000000,1004096)],[]⟩),(14,⟨[0,5,9,10,11],[([5],9,(.str .nil),1000000)],[],[(37888,1000000)],[]⟩)]
def X4:Lk:=⟨[],[(14,⟨[(0,.c (.c (.ptr 0 0))),(5,.c (xo 1000000)),(9,.i),(10,.i),(11,.c x64)],[(0,.box [xb]),(1000000,.arr 9 false (.str .nil))]⟩,[(0,⟨[(0,.c (.c (.ptr 0 0))),(5,.c (xo 1004096))],[(0,.box [xb]),(1004096,.arr 9 false (.str .nil))]⟩)])]⟩
def X6 (N:Nat):Sig:=.of [.box [(false,.bool)],Sq2] [.cell false .str] (fun a=>Et N a.1 a.2)
theorem TM (N:Nat):Spec Tryz.prog 117 (X6 N):=Ad (C:=ctx Tryz.prog [(193,Ky N),(75,DD N)] Wi) (L:=X4) (fn:=Tryz.f117) (N:=N) (Ag ⟨KQ N,Dp N,trivial⟩)
def Wh:List (Nat×Nrm):=[(3,⟨[0,5],[([5],9,(.str .nil),1004096)],[],[(1000000,1004096)],[]⟩),(14,⟨[0,5,9,10,11],[([5],9,(.str .nil),1000000)],[],[(38656,1000000)],[]⟩)]
def Xz:Lk:=⟨[],[(14,⟨[(0,.c (.c (.ptr 0 0))),(5,.c (xo 1000000)),(9,.i),(10,.i),(11,.c x64)],[(0,.box [xb]),(1000000,.arr 9 false (.str .nil))]⟩,[(0,⟨[(0,.c (.c (.ptr 0 0))),(5,.c (xo 1004096))],[(0,.box [xb]),(1004096,.arr 9 false (.str .nil))]⟩)])]⟩
def X3 (N:Nat):Sig:=.of [.box [(false,.bool)],Sq2] [.cell false .str] (fun a=>Es N a.1 a.2)
theorem TL (N:Nat):Spec Tryz.prog 120 (X3 N):=Ad (C:=ctx Tryz.prog [(193,Ky N),(75,DD N)] Wh) (L:=Xz) (fn:=Tryz.f120) (N:=N) (Ag ⟨KQ N,Dp N,trivial⟩)
def VZ:List (Nat×Nrm):=[(3,⟨[0,5],[([5],9,(.str .nil),1004096)],[],[(1000000,1004096)],[]⟩),(14,⟨[0,5,9,10,11],[([5],9,(.str .nil),1000000)],[],[(39936,1000000)],[]⟩)]
def Xv:Lk:=⟨[],[(14,⟨[(0,.c (.c (.ptr 0 0))),(5,.c (xo 1000000)),(9,.i),(10,.i),(11,.c x64)],[(0,.box [xb]),(1000000,.arr 9 false (.str .nil))]⟩,[(0,⟨[(0,.c (.c (.ptr 0 0))),(5,.c (xo 1004096))],[(0,.box [xb]),(1004096,.arr 9 false (.str .nil))]⟩)])]⟩
def Xx (N:Nat):Sig:=.of [.box [(false,.bool)],Sq2] [.cell false .str] (fun a=>Ep N a.1 a.2)
theorem TK (N:Nat):Spec Tryz.prog 123 (Xx N):=Ad (C:=ctx Tryz.prog [(193,Ky N),(75,DD N)] VZ) (L:=Xv) (fn:=Tryz.f123) (N:=N) (Ag ⟨KQ N,Dp N,trivial⟩)
def pJ:List (Nat×Nrm):=[(3,⟨[0,2,3],[],[],[(33637,1004096),(1000000,1004096)],[]⟩),(11,⟨[0,2,3],[],[],[(33638,1012288),(1008192,1012288)],[]⟩),(14,⟨[0,2,3,4],[],[],[(33637,1000000),(37376,1000000)],[]⟩),(30,⟨[0,2,3,5],[],[],[(33638,1008192),(40704,1008192)],[]⟩)]
def uT:Lk:=⟨[],[(14,⟨[(0,.c (.c (.ptr 0 0))),(2,.c (.c (.ptr 33280 0))),(3,.c (.c (.ptr 33536 0))),(4,.c x64)],[(0,.box [(xl (.int .i64 .nil)),x64]),(33280,.box [(xo 33281),(xo 33282)]),(33281,.Bg 80 false Tq1),(33282,.Bg 80 false Tq1),(33536,.box [(xo 1000000),(xo 33638)]),(33638,.Bg 80 false Tq1),(1000000,.arr 80 false Tq1)]⟩,[(0,⟨[(0,.c (.c (.ptr 0 0))),(2,.c (.c (.ptr 33280 0))),(3,.c (.c (.ptr 33536 0)))],[(0,.box [(xl (.int .i64 .nil)),x64]),(33280,.box [(xo 33281),(xo 33282)]),(33281,.Bg 80 false Tq1),(33282,.Bg 80 false Tq1),(33536,.box [(xo 1004096),(xo 33638)]),(33638,.Bg 80 false Tq1),(1004096,.arr 80 false Tq1)]⟩)]),(30,⟨[(0,.c (.c (.ptr 0 0))),(2,.c (.c (.ptr 33280 0))),(3,.c (.c (.ptr 33536 0))),(5,.c x64)],[(0,.box [(xl (.int .i64 .nil)),x64]),(33280,.box [(xo 33281),(xo 33282)]),(33281,.Bg 80 false Tq1),(33282,.Bg 80 false Tq1),(33536,.box [(xo 1004096),(xo 1008192)]),(1004096,.arr 80 false Tq1),(1008192,.arr 80 false Tq1)]⟩,[(2,⟨[(0,.c (.c (.ptr 0 0))),(2,.c (.c (.ptr 33280 0))),(3,.c (.c (.ptr 33536 0)))],[(0,.box [(xl (.int .i64 .nil)),x64]),(33280,.box [(xo 33281),(xo 33282)]),(33281,.Bg 80 false Tq1),(33282,.Bg 80 false Tq1),(33536,.box [(xo 1004096),(xo 1012288)]),(1004096,.arr 80 false Tq1),(1012288,.arr 80 false Tq1)]⟩)])]⟩
def Vw (N:Nat):Sig:=.of [Td] [Sq7] (fun a=>Nk N a)
theorem fG (N:Nat):Spec Tryz.prog 98 (Vw N):=Ad (C:=ctx Tryz.prog [(33,Dk N),(42,lJ N)] pJ) (L:=uT) (fn:=Tryz.f98) (N:=N) (Ag ⟨CV N,zT N,trivial⟩)
def zX:List (Nat×Nrm):=[(3,⟨[3],[([3],111,Tq2,1008192)],[],[(1000000,1008192)],[]⟩),(14,⟨[0,3,4],[([3],111,Tq2,1000000)],[],[(41216,1000000)],[]⟩),(33,⟨[0,3,4,5],[([3],111,Tq2,1004096)],[(some 34048,3,(.sl 177 Tq0 .nil))],[(1000000,1004096)],[]⟩)]
def Ab9:Lk:=⟨[(33,⟨[(0,.c (.c (.ptr 0 0))),(3,.c (xo 1004096)),(4,.i),(5,.c (.c (.ptr 34048 0)))],[(0,.box [(xl (.int .i64 .nil)),x64]),(34048,.box [(xo 36608),x64,xb,(xl (.sl 177 Tq0 .nil))]),(36608,.arr 80 false Tq1),(1004096,.arr 111 false Tq2)]⟩)],[(14,⟨[(0,.c (.c (.ptr 0 0))),(3,.c (xo 1000000)),(4,.c x64)],[(0,.box [(xl (.int .i64 .nil)),x64]),(1000000,.arr 111 false Tq2)]⟩,[(0,⟨[(3,.c (xo 1008192))],[(0,.box [(xl (.int .i64 .nil)),x64]),(1008192,.arr 111 false Tq2)]⟩)])]⟩
def Zy (N:Nat):Sig:=.of [Td] [.cell true (.sl 111 Tq2)] (fun a=>MO N a)
theorem pO (N:Nat):Spec Tryz.prog 99 (Zy N):=Ad (C:=ctx Tryz.prog [(33,Dk N),(43,Qa N),(180,Uc N)] zX) (L:=Ab9) (fn:=Tryz.f99) (N:=N) (Ag ⟨CV N,RF N,aJ N,trivial⟩)
end
noncomputable section
def Wl:List (Nat×Nrm):=[(3,⟨[],[],[],[],[]⟩),(11,⟨[0,13,14,15],[],[],[],[]⟩),(26,⟨[0,13,14,15],[],[],[],[]⟩),(62,⟨[0,4,13,14,15,41,42,43],[],[],[],[]⟩)]
def XD:Lk:=⟨[],[(26,⟨[(0,.i),(13,.i),(14,.i),(15,.c x64)],[]⟩,[(0,⟨[],[]⟩)]),(62,⟨[(0,.i),(4,.c (.c (.ptr 33792 0))),(13,.i),(14,.i),(15,.i),(41,.i),(42,.i),(43,.c x64)],[(33792,.box [xs,x64,xs])]⟩,[(2,⟨[(0,.i),(13,.i),(14,.i),(15,.i)],[]⟩)])]⟩
def NP (N:Nat):Sig:=.of [.cell false (.sl 177 Tq0)] [.cell false (.int .i64)] (fun a=>FI N a)
theorem TS (N:Nat):Spec Tryz.prog 218 (NP N):=Ad (C:=ctx Tryz.prog [(156,JW N),(259,iC N)] Wl) (L:=XD) (fn:=Tryz.f218) (N:=N) (Ag ⟨Jh N,wX N,trivial⟩)
def QE (N:Nat):Sig:=.of [.cell false (.int .i64),.cell false .str,.cell false .bool] [.cell false .bool] (fun a=>FU N a.1 a.2.1 a.2.2)
theorem XG (N:Nat):Spec Tryz.prog 206 (QE N):=Ad (C:=ctx Tryz.prog [(245,Vp N),(246,Wu N),(247,lG N),(248,XK N),(249,eP N),(250,XI N)] [] [] [] [] [11,14,15,18,21,22,26,29,30,33,36,37,41,44,45,48,51,52]) (L:=⟨[],[]⟩) (fn:=Tryz.f206) (N:=N) (Ag ⟨eG N,XJ N,zI N,kH N,uC N,kG N,trivial⟩)
def Ady:List (Nat×Nrm):=[(3,⟨[2,3],[],[],[(34053,1008272),(34054,1008256),(34055,1008240),(34059,1008224),(34065,1008208),(34067,1008192),(1000000,1008272),(1000016,1008256),(1000032,1008240),(1000048,1008224),(1000064,1008208),(1000080,1008192)],[]⟩),(14,⟨[0,2,3,4],[],[(some 33536,17,Tq2)],[(34053,1000000),(34054,1000016),(34055,1000032),(34059,1000048),(34065,1000064),(34067,1000080),(39168,1000080),(45568,1000000),(46848,1000016),(48128,1000032),(55040,1000048),(61440,1000064),(1004096,1000080),(1004112,1000064),(1004128,1000048),(1004144,1000032),(1004160,1000016),(1004176,1000000)],[1000048,1000080]⟩),(41,⟨[0,2,3,4,13,27],[],[],[(34053,1004176),(34054,1004160),(34055,1004144),(34059,1004128),(34065,1004112),(34067,1004096),(1000000,1004176),(1000016,1004160),(1000032,1004144),(1000048,1004128),(1000064,1004112),(1000080,1004096)],[]⟩)]
def AeF:Lk:=⟨[(41,⟨[(0,.c (.c (.ptr 0 0))),(2,.c (.c (.ptr 33280 0))),(3,.c (.c (.ptr 33536 0))),(4,.i),(13,.i),(27,.c xb)],[(0,.box [(xl (.int .i64 .nil)),x64]),(33280,.box [(.c (.bool false)),(.c (.bool false)),(.c (.int .i64 0)),(.c (.int .i64 0)),(xo 33285),(xo 33286),(xo 33287),(.c (.int .i64 0)),(.c (.int .i64 0)),(.c (.int .i64 0)),(xo 33291),(.c (.bool false)),(xo 33293),(xo 33294),(.c (.str ([]:Bs))),(.c (.str ([]:Bs))),(xo 33297),(xo 33298),(xo 33299)]),(33285,.Bg 9 false (.str .nil)),(33286,.Bg 9 false (.str .nil)),(33287,.Bg 74 false (.str (.str .nil))),(33291,.Bg 80 false Tq1),(33293,.Bg 80 false Tq1),(33294,.Bg 80 false Tq1),(33297,.Bg 111 false Tq2),(33298,.Bg 111 false Tq2),(33299,.Bg 60 false Tq3),(33536,.box [xb,xb,x64,x64,(xo 1004176),(xo 1004160),(xo 1004144),x64,x64,x64,(xo 1004128),xb,(xl Tq1),(xl Tq1),xs,xs,(xo 1004112),(xl Tq2),(xo 1004096)]),(1004096,.arr 60 true Tq3),(1004112,.arr 111 true Tq2),(1004128,.arr 80 true Tq1),(1004144,.arr 74 true (.str (.str .nil))),(1004160,.arr 9 true (.str .nil)),(1004176,.arr 9 true (.str .nil))]⟩)],[(14,⟨[(0,.c (.c (.ptr 0 0))),(2,.c (.c (.ptr 33280 0))),(3,.c (.c (.ptr 33536 0))),(4,.c x64)],[(0,.box [(xl (.int .i64 .nil)),x64]),(33280,.box [(.c (.bool false)),(.c (.bool false)),(.c (.int .i64 0)),(.c (.int .i64 0)),(xo 33285),(xo 33286),(xo 33287),(.c (.int .i64 0)),(.c (.int .i64 0)),(.c (.int .i64 0)),(xo 33291),(.c (.bool false)),(xo 33293),(xo 33294),(.c (.str ([]:Bs))),(.c (.str ([]:Bs))),(xo 33297),(xo 33298),(xo 33299)]),(33285,.Bg 9 false (.str .nil)),(33286,.Bg 9 false (.str .nil)),(33287,.Bg 74 false (.str (.str .nil))),(33291,.Bg 80 false Tq1),(33293,.Bg 80 false Tq1),(33294,.Bg 80 false Tq1),(33297,.Bg 111 false Tq2),(33298,.Bg 111 false Tq2),(33299,.Bg 60 false Tq3),(33536,.box [xb,xb,x64,x64,(xo 1000000),(xo 1000016),(xo 1000032),x64,x64,x64,(xo 1000048),xb,(xl Tq1),(xl Tq1),xs,xs,(xo 1000064),(xl Tq2),(xo 1000080)]),(1000000,.arr 9 true (.str .nil)),(1000016,.arr 9 true (.str .nil)),(1000032,.arr 74 true (.str (.str .nil))),(1000048,.arr 80 true Tq1),(1000064,.arr 111 true Tq2),(1000080,.arr 60 true Tq3)]⟩,[(0,⟨[(2,.c (.c (.ptr 33280 0))),(3,.c (.c (.ptr 33536 0)))],[(0,.box [(xl (.int .i64 .nil)),x64]),(33280,.box [(.c (.bool false)),(.c (.bool false)),(.c (.int .i64 0)),(.c (.int .i64 0)),(xo 33285),(xo 33286),(xo 33287),(.c (.int .i64 0)),(.c (.int .i64 0)),(.c (.int .i64 0)),(xo 33291),(.c (.bool false)),(xo 33293),(xo 33294),(.c (.str ([]:Bs))),(.c (.str ([]:Bs))),(xo 33297),(xo 33298),(xo 33299)]),(33285,.Bg 9 false (.str .nil)),(33286,.Bg 9 false (.str .nil)),(33287,.Bg 74 false (.str (.str .nil))),(33291,.Bg 80 false Tq1),(33293,.Bg 80 false Tq1),(33294,.Bg 80 false Tq1),(33297,.Bg 111 false Tq2),(33298,.Bg 111 false Tq2),(33299,.Bg 60 false Tq3),(33536,.box [xb,xb,x64,x64,(xo 1008272),(xo 1008256),(xo 1008240),x64,x64,x64,(xo 1008224),xb,(xl Tq1),(xl Tq1),xs,xs,(xo 1008208),(xl Tq2),(xo 1008192)]),(1008192,.arr 60 true Tq3),(1008208,.arr 111 true Tq2),(1008224,.arr 80 true Tq1),(1008240,.arr 74 true (.str (.str .nil))),(1008256,.arr 9 true (.str .nil)),(1008272,.arr 9 true (.str .nil))]⟩)])]⟩
def lK (N:Nat):Sig:=.of [Td] [AnL] (fun a=>QI N a)
theorem zV (N:Nat):Spec Tryz.prog 32 (lK N):=Ad (C:=ctx Tryz.prog [(20,gJ N),(33,Dk N),(96,lL N),(97,Vx N),(43,Qa N),(98,Vw N),(99,Zy N)] Ady [] [] [25,87]) (L:=AeF) (fn:=Tryz.f32) (N:=N) (Ag ⟨wK N,CV N,zW N,fH N,RF N,fG N,pO N,trivial⟩)
def bI (N:Nat):Sig:=.of [.cell false .str,MB] [.cell false (.int .i64)] (fun a=>EE N a.1 a.2)
theorem Xd (N:Nat):Spec Tryz.prog 112 (bI N):=Ad (C:=ctx Tryz.prog [(191,Ry N),(173,Hm N),(192,Jt N),(176,Ei N)] [] [(84,L9 N)]) (L:=⟨[],[]⟩) (fn:=Tryz.f112) (N:=N) (Ag ⟨Y8 N,Hz N,JY N,Eb N,trivial⟩ ⟨Ou N,trivial⟩)
def GY (N:Nat):Alt:=.of [.cell false .str] [P9,.cell false (.int .i64)] [.cell false .ptr,.cell false (.int .i64)] (fun a=>Hg N a)
theorem Js (N:Nat):Spec Tryz.prog 194 (GY N).1/\Spec Tryz.prog 194 (GY N).2.1:=RQ (C:=ctx Tryz.prog [(85,F5 N)] [] [(84,L9 N)]) (L:=⟨[],[]⟩) (fn:=Tryz.f194) (N:=N) (Ag ⟨Fb N,trivial⟩ ⟨Ou N,trivial⟩) (by kernel_rfl) (by kernel_rfl) (fun a=>by kernel_rfl)
def VS (N:Nat):Sig:=.of [.cell false .str,MB] [.cell false (.int .i64)] (fun a=>DC N a.1 a.2)
theorem RX (N:Nat):Spec Tryz.prog 142 (VS N):=Ad (C:=ctx Tryz.prog [(172,IL N),(202,Nv N),(176,Ei N)] [] [(84,L9 N)]) (L:=⟨[],[]⟩) (fn:=Tryz.f142) (N:=N) (Ag ⟨Jv N,Pz N,Eb N,trivial⟩ ⟨Ou N,trivial⟩)
end
