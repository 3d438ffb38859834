import Derived.Test.YtbnphelpndnnfaaGreatDoorA12
import Derived.Test.YtbnphelpndnnfaaGreatDoorA13
set_option linter.all false
namespace Go.Proofs.YtbnphelpndnnfaaGreatDoor.Vm
noncomputable section
variable (N:Nat)
open Go.Proofs
def EY:Sig:=.of [Sq0,CY] [CY] (fun a=>Di N a.1 a.2)
theorem EJ:CX 39 (EY N):=Dc (CZ [] []) ⟨[],[]⟩ Tryz.f39 N (ctx_ok trivial)
def QR (N n:Nat):Sig:=.of [.cell false (.int .i64)] [.cell false .str] (fun a=>OV N n a)
theorem SA (N:Nat): ∀ n,Spec Tryz.prog 124 (QR N n)
  | 0=>spec_none (C:=ctx Tryz.prog [] []) (fn:=Tryz.f124) (ctx_ok (gs:=[]) trivial) (by kernel_rfl) (by kernel_rfl)
  | n+1=>spec_of_exe (C:=ctx Tryz.prog ((124,QR N n)::[]) []) (L:=⟨[],[]⟩) (fn:=Tryz.f124) (N:=N) (ctx_ok ⟨SA N n,trivial⟩)
def YG:Sig:=QR N N
theorem iK:Spec Tryz.prog 124 (YG N):=SA N N
def iL:List (Nat×Nrm):=[(3,⟨[3],[],[],[],[]⟩),(14,⟨[3,8,9],[],[],[],[]⟩)]
def lK:Lk:=⟨[],[(14,⟨[(3,.c (xo 34304)),(8,.i),(9,.c x64)],[(34304,.arr 5 false Ar)]⟩,[(0,⟨[(3,.c (xo 34304))],[(34304,.arr 5 false Ar)]⟩)])]⟩
def VT:Sig:=.of [Df] [Df] (fun a=>YH N a)
theorem Z9:CX 505 (VT N):=Dc (CZ [] iL) lK Tryz.f505 N (ctx_ok trivial)
def bQ:Sig:=.of [Sq6] [Sq0] (fun a=>Zo N a)
theorem kV:CX 10 (bQ N):=Dc (CZ [] []) ⟨[],[]⟩ Tryz.f10 N (ctx_ok trivial)
def Xj:Sig:=.of [] [Sq7] (fun _=>aW N)
theorem aX:CX 402 (Xj N):=Dc (CZ [] []) ⟨[],[]⟩ Tryz.f402 N (ctx_ok trivial)
def NV:Sig:=.of [] [Sq8] (fun _=>MK N)
theorem PN:CX 460 (NV N):=Dc (CZ [] []) ⟨[],[]⟩ Tryz.f460 N (ctx_ok trivial)
def Y1:Sig:=.of [.cell false (.int .u32),.cell false (.int .u64)] [.cell false (.int .u32)] (fun a=>FQ N a.1 a.2)
theorem gB:CX 495 (Y1 N):=Dc (CZ [] []) ⟨[],[]⟩ Tryz.f495 N (ctx_ok trivial)
def VK:Sig:=.of [] [Sq9] (fun _=>Y0 N)
theorem Zh:CX 496 (VK N):=Dc (CZ [] []) ⟨[],[]⟩ Tryz.f496 N (ctx_ok trivial)
def GX:Sig:=.of [dU] [Du] (fun a=>DK N a)
theorem Ig:CX 157 (GX N):=Dc (CZ [] []) ⟨[],[]⟩ Tryz.f157 N (ctx_ok trivial)
def iP:List (Nat×Nrm):=[(3,⟨[0,5,6],[],[],[],[]⟩),(11,⟨[0,5,6],[],[],[],[]⟩),(18,⟨[0,1,5,6,7],[],[],[],[]⟩),(19,⟨[0,13,14,15,16,17,18,19,20],[],[],[],[]⟩),(34,⟨[0,5,6,8],[],[],[],[]⟩),(66,⟨[0,5,6,13,14,15,16,17,18,19,20,21],[],[],[],[]⟩)]
def lM:Lk:=⟨[],[(18,⟨[(0,.i),(1,.i),(5,.c (xo 39424)),(6,.c (.c (.oelt 34304 0 0))),(7,.c x64)],[(34304,.arr 272 false Au),(39424,.arr 191 false Au)]⟩,[(0,⟨[(0,.i),(5,.c (xo 39424)),(6,.c (.c (.oelt 34304 0 0)))],[(34304,.arr 272 false Au),(39424,.arr 191 false Au)]⟩)]),(34,⟨[(0,.i),(5,.c (xo 39424)),(6,.c (.c (.oelt 34304 0 0))),(8,.c x64)],[(34304,.arr 272 false Au),(39424,.arr 191 false Au)]⟩,[(2,⟨[(0,.i),(5,.c (xo 39424)),(6,.c (.c (.oelt 34304 0 0)))],[(34304,.arr 272 false Au),(39424,.arr 191 false Au)]⟩)]),(66,⟨[(0,.i),(5,.c (xo 39424)),(6,.c (.c (.oelt 34304 0 0))),(13,.c Ba),(14,.c Ba),(15,.c Ba),(16,.c Ba),(17,.c Ba),(18,.c Ba),(19,.c Ba),(20,.c Ba),(21,.c x64)],[(34304,.arr 272 false Au),(39424,.arr 191 false Au)]⟩,[(4,⟨[(0,.i),(13,.c Ba),(14,.c Ba),(15,.c Ba),(16,.c Ba),(17,.c Ba),(18,.c Ba),(19,.c Ba),(20,.c Ba)],[]⟩)])]⟩
def VU:Sig:=.of [Acd,Df] [Acd] (fun a=>KP N a.1 a.2)
theorem ZA:CX 127 (VU N):=Dc (CZ [] iP) lM Tryz.f127 N (ctx_ok trivial)
def dH:Sig:=.of [CY] [Df] (fun a=>V8 N a)
theorem lN:CX 53 (dH N):=Dc (CZ [] []) ⟨[],[]⟩ Tryz.f53 N (ctx_ok trivial)
def vV:List (Nat×Nrm):=[(3,⟨[3],[],[],[],[]⟩),(22,⟨[0,3,4],[],[],[],[]⟩)]
def yT:Lk:=⟨[],[(22,⟨[(0,.i),(3,.c x64),(4,.c x64)],[]⟩,[(0,⟨[(3,.c x64)],[]⟩)])]⟩
def jT:Sig:=.of [Df] [CY] (fun a=>tJ N a)
theorem oI:CX 386 (jT N):=Dc (CZ [] vV [] [] [] [7,11,12,16,20,21]) yT Tryz.f386 N (ctx_ok trivial)
def bV:Sig:=.of [CY,CY] [Du] (fun a=>oK N a.1 a.2)
theorem l9:CX 387 (bV N):=Dc (CZ [] []) ⟨[],[]⟩ Tryz.f387 N (ctx_ok trivial)
def VY:Sig:=.of [.cell false (.int .u8)] [Du] (fun a=>YN N a)
theorem ZI:CX 417 (VY N):=Dc (CZ [] [] [] [] [] [5,8,9,12,15,16,17,20,23,24]) ⟨[],[]⟩ Tryz.f417 N (ctx_ok trivial)
def iY:Sig:=.of [.cell false (.int .u8)] [Du] (fun a=>QX N a)
theorem Yu:CX 419 (iY N):=Dc (CZ [] []) ⟨[],[]⟩ Tryz.f419 N (ctx_ok trivial)
def UX:Sig:=.of [CY,CY,CY] [Du] (fun a=>FB N a.1 a.2.1 a.2.2)
theorem VI:CX 145 (UX N):=Dc (CZ [] []) ⟨[],[]⟩ Tryz.f145 N (ctx_ok trivial)
def Yk:List (Nat×Nrm):=[(17,⟨[0,2,3],[],[],[],[]⟩)]
def Zn:Lk:=⟨[(17,⟨[(0,.i),(2,.c AB),(3,.c xs)],[(33280,.box BA),(33281,.arr0 147 false Aq)]⟩)],[]⟩
def II:Sig:=.of [CY] [Sq1] (fun a=>Dx N a)
theorem Jk:CX 46 (II N):=Dc (CZ [(124,YG N)] Yk) Zn Tryz.f46 N (ctx_ok ⟨iK N,trivial⟩)
def Y8:Sig:=.of [Sq0] [CY] (fun a=>JF N a)
theorem gU:CX 47 (Y8 N):=Dc (CZ [(39,EY N)] []) ⟨[],[]⟩ Tryz.f47 N (ctx_ok ⟨EJ N,trivial⟩)
def QI:Sig:=.of [Sq0] [Sq2] (fun a=>JX N a)
theorem Wq:CX 160 (QI N):=Dc (CZ [(39,EY N)] []) ⟨[],[]⟩ Tryz.f160 N (ctx_ok ⟨EJ N,trivial⟩)
def lJ:List (Nat×Nrm):=[(3,⟨[3],[([3],5,Ar,1004096)],[],[(1000000,1004096)],[]⟩),(18,⟨[0,3,4],[([3],5,Ar,1000000)],[],[(41984,1000000)],[]⟩)]
def oW:Lk:=⟨[],[(18,⟨[(0,.i),(3,.c (xo 1000000)),(4,.c x64)],[(1000000,.arr 5 false Ar)]⟩,[(0,⟨[(3,.c (xo 1004096))],[(1004096,.arr 5 false Ar)]⟩)])]⟩
def XA:Sig:=.of [Df] [Df] (fun a=>V4 N a)
theorem dD:CX 471 (XA N):=Dc (CZ [(505,VT N)] lJ) oW Tryz.f471 N (ctx_ok ⟨Z9 N,trivial⟩)
def Wp:List (Nat×Nrm):=[(3,⟨[2,4,5],[],[],[],[]⟩),(11,⟨[2,4,5],[],[],[],[]⟩),(14,⟨[1,2,4,5,6],[],[],[],[]⟩),(19,⟨[2,4,11],[],[],[],[]⟩),(27,⟨[4,11],[],[],[],[]⟩),(30,⟨[2,4,5,7],[],[],[],[]⟩),(62,⟨[2,4,5,10,11,12],[],[],[],[]⟩),(98,⟨[2,4,11,204],[],[],[],[]⟩)]
def Xl:Lk:=⟨[],[(14,⟨[(1,.i),(2,.c (.c (.oelt 33280 0 0))),(4,.c (.c (.oelt 33792 0 0))),(5,.c (.c (.oelt 34048 0 0))),(6,.c x64)],[(33280,.arr 415 false Au),(33792,.arr 415 false Au),(34048,.arr 272 false Au)]⟩,[(0,⟨[(2,.c (.c (.oelt 33280 0 0))),(4,.c (.c (.oelt 33792 0 0))),(5,.c (.c (.oelt 34048 0 0)))],[(33280,.arr 415 false Au),(33792,.arr 415 false Au),(34048,.arr 272 false Au)]⟩)]),(30,⟨[(2,.c (.c (.oelt 33280 0 0))),(4,.c (.c (.oelt 33792 0 0))),(5,.c (.c (.oelt 34048 0 0))),(7,.c x64)],[(33280,.arr 415 false Au),(33792,.arr 415 false Au),(34048,.arr 272 false Au)]⟩,[(2,⟨[(2,.c (.c (.oelt 33280 0 0))),(4,.c (.c (.oelt 33792 0 0))),(5,.c (.c (.oelt 34048 0 0)))],[(33280,.arr 415 false Au),(33792,.arr 415 false Au),(34048,.arr 272 false Au)]⟩)]),(62,⟨[(2,.c (.c (.oelt 33280 0 0))),(4,.c (.c (.oelt 33792 0 0))),(5,.c (.c (.oelt 34048 0 0))),(10,.c (.c (.oelt 35328 0 0))),(11,.c (.c (.oelt 35584 0 0))),(12,.c x64)],[(33280,.arr 415 false Au),(33792,.arr 415 false Au),(34048,.arr 272 false Au),(35328,.arr 272 false Au),(35584,.arr 415 false Au)]⟩,[(4,⟨[(2,.c (.c (.oelt 33280 0 0))),(4,.c (.c (.oelt 33792 0 0))),(11,.c (.c (.oelt 35584 0 0)))],[(33280,.arr 415 false Au),(33792,.arr 415 false Au),(35584,.arr 415 false Au)]⟩)]),(98,⟨[(2,.c (.c (.oelt 33280 0 0))),(4,.c (.c (.oelt 33792 0 0))),(11,.c (.c (.oelt 35584 0 0))),(204,.c x64)],[(33280,.arr 415 false Au),(33792,.arr 415 false Au),(35584,.arr 415 false Au)]⟩,[(6,⟨[(4,.c (.c (.oelt 33792 0 0))),(11,.c (.c (.oelt 35584 0 0)))],[(33792,.arr 415 false Au),(35584,.arr 415 false Au)]⟩)])]⟩
def JB:Sig:=.of [Sq8,Adv] [Sq8] (fun a=>GK N a.1 a.2)
theorem LJ:CX 461 (JB N):=Dc (CZ [(495,Y1 N),(496,VK N)] Wp) Xl Tryz.f461 N (ctx_ok ⟨gB N,Zh N,trivial⟩)
def Gu:Sig:=.of [dU] [CY] (fun a=>DF N a)
theorem GZ:CX 126 (Gu N):=Dc (CZ [(157,GX N)] []) ⟨[],[]⟩ Tryz.f126 N (ctx_ok ⟨Ig N,trivial⟩)
def oZ:List (Nat×Nrm):=[(3,⟨[3],[],[],[],[]⟩),(11,⟨[3,6,9],[],[],[],[]⟩),(14,⟨[3,15,16,17],[],[],[],[]⟩),(19,⟨[6],[],[(none,6,Au)],[],[]⟩),(27,⟨[12],[],[],[(51456,1032768),(1028672,1032768)],[]⟩),(49,⟨[3,6,7,8],[],[],[],[]⟩),(62,⟨[3,6,7,9,10],[],[],[],[]⟩),(82,⟨[3,6,11],[],[(none,6,Au)],[],[]⟩),(102,⟨[12,74,75,76],[],[],[(51456,1028672),(56576,1028672)],[]⟩)]
def rF:Lk:=⟨[(49,⟨[(3,.i),(6,.c (xo 39168)),(7,.i),(8,.c x64)],[(39168,.arr 191 false Au)]⟩)],[(14,⟨[(3,.c xs),(15,.i),(16,.i),(17,.c x64)],[]⟩,[(0,⟨[(3,.c xs)],[]⟩)]),(62,⟨[(3,.i),(6,.c (xo 39168)),(7,.i),(9,.c (xo 41984)),(10,.c x64)],[(39168,.arr 191 false Au),(41984,.arr 5 false Ar)]⟩,[(2,⟨[(3,.i),(6,.c (xo 39168)),(9,.c (xo 41984))],[(39168,.arr 191 false Au),(41984,.arr 5 false Ar)]⟩)]),(82,⟨[(3,.i),(6,.c (xl Au)),(11,.c x64)],[]⟩,[(4,⟨[(6,.c (xl Au))],[]⟩)]),(102,⟨[(12,.c (xo 1028672)),(74,.i),(75,.i),(76,.c x64)],[(1028672,.arr 5 false Ar)]⟩,[(6,⟨[(12,.c (xo 1032768))],[(1032768,.arr 5 false Ar)]⟩)])]⟩
def YI:Sig:=.of [WE] [Df] (fun a=>SB N a)
theorem iO:CX 52 (YI N):=Dc (CZ [(127,VU N)] oZ) rF Tryz.f52 N (ctx_ok ⟨ZA N,trivial⟩)
def qY:List (Nat×Nrm):=[(3,⟨[4],[([4],3,Az,1004096)],[],[(1000000,1004096)],[]⟩),(26,⟨[4,18,19,20],[([4],3,Az,1000000)],[],[(40704,1000000)],[]⟩)]
def vW:Lk:=⟨[],[(26,⟨[(4,.c (xo 1000000)),(18,.i),(19,.i),(20,.c x64)],[(1000000,.arr 3 false Az)]⟩,[(0,⟨[(4,.c (xo 1004096))],[(1004096,.arr 3 false Az)]⟩)])]⟩
def Vt:Sig:=.of [Df] [Adw] (fun a=>Zu N a)
theorem VP:CX 281 (Vt N):=Dc (CZ [(385,Jv N),(386,jT N),(387,bV N)] qY) vW Tryz.f281 N (ctx_ok ⟨OY N,oI N,l9 N,trivial⟩)
def aV:Sig:=.of [CY] [CY] (fun a=>Zg N a)
theorem kP:CX 295 (aV N):=Dc (CZ [] []) ⟨[],[]⟩ Tryz.f295 N (ctx_ok trivial)
def P5:Sig:=.of [.cell false (.int .u8)] [Du] (fun a=>Tv N a)
theorem QG:CX 456 (P5 N):=Dc (CZ [] [] [] [] [] [5,8,9,12,15,16]) ⟨[],[]⟩ Tryz.f456 N (ctx_ok trivial)
def QF:Sig:=.of [.cell false (.int .u8)] [Du] (fun a=>Qc N a)
theorem RZ:CX 457 (QF N):=Dc (CZ [] []) ⟨[],[]⟩ Tryz.f457 N (ctx_ok trivial)
def VL:Sig:=.of [Df] [Df,Df] (fun a=>Y3 N a)
theorem Zi:CX 469 (VL N):=Dc (CZ [] []) ⟨[],[]⟩ Tryz.f469 N (ctx_ok trivial)
def bC:Sig:=.of [Df,CY] [Du] (fun a=>Vl N a.1 a.2)
theorem kS:CX 470 (bC N):=Dc (CZ [] []) ⟨[],[]⟩ Tryz.f470 N (ctx_ok trivial)
def Un:Sig:=.of [Df] [Du] (fun a=>QD N a)
theorem Yi:CX 424 (Un N):=Dc (CZ [] []) ⟨[],[]⟩ Tryz.f424 N (ctx_ok trivial)
def pM:List (Nat×Nrm):=[(3,⟨[3],[([3],5,Ar,1012288)],[],[(1000000,1012288)],[]⟩),(18,⟨[3,4,8,9,10],[([3],5,Ar,1000000)],[],[(41472,1000000)],[]⟩),(45,⟨[3,4,6,8,9,10],[([3],5,Ar,1004096)],[],[(38400,1004096),(1000000,1004096)],[]⟩),(53,⟨[3,4,6,8,9,10],[([3],5,Ar,1008192)],[],[(1004096,1008192)],[]⟩)]
def rO:Lk:=⟨[(45,⟨[(3,.c (xo 1004096)),(4,.c xb),(6,.i),(8,.c (xo 34816)),(9,.i),(10,.i)],[(34816,.arr 5 false Ar),(1004096,.arr 5 false Ar)]⟩),(53,⟨[(3,.c (xo 1008192)),(4,.i),(6,.c x8),(8,.c (xo 34816)),(9,.i),(10,.i)],[(34816,.arr 5 false Ar),(1008192,.arr 5 false Ar)]⟩)],[(18,⟨[(3,.c (xo 1000000)),(4,.c xb),(8,.c (xo 34816)),(9,.i),(10,.c x64)],[(34816,.arr 5 false Ar),(1000000,.arr 5 false Ar)]⟩,[(0,⟨[(3,.c (xo 1012288))],[(1012288,.arr 5 false Ar)]⟩)])]⟩
def YM:Sig:=.of [Df] [Df] (fun a=>XF N a)
theorem iV:CX 515 (YM N):=Dc (CZ [] pM) rO Tryz.f515 N (ctx_ok trivial)
def WJ:Sig:=.of [CY] [CY] (fun a=>JP N a)
theorem WL:CX 65 (WJ N):=Dc (CZ [] []) ⟨[],[]⟩ Tryz.f65 N (ctx_ok trivial)
def Ub:Sig:=.of [Sq4] [Du] (fun a=>MB N a)
theorem XZ:CX 237 (Ub N):=Dc (CZ [] []) ⟨[],[]⟩ Tryz.f237 N (ctx_ok trivial)
def Es:Sig:=.of [.box [(false,.bool)],Df,CY] [Df] (fun a=>Dn N a.1 a.2.1 a.2.2)
theorem Ef:CX 104 (Es N):=Dc (CZ [] []) ⟨[],[]⟩ Tryz.f104 N (ctx_ok trivial)
def rV:List (Nat×Nrm):=[(3,⟨[0,1,6],[],[],[],[]⟩),(22,⟨[0,1,6,21,22,23],[],[],[],[]⟩),(77,⟨[1,9],[],[],[(45568,1008192),(47616,1008192),(49664,1008192),(52480,1008192)],[]⟩)]
def wR:Lk:=⟨[(77,⟨[(1,.i),(9,.c (xo 1008192))],[(1008192,.arr 5 false Ar)]⟩)],[(22,⟨[(0,.i),(1,.i),(6,.c x64),(21,.i),(22,.i),(23,.c x64)],[]⟩,[(0,⟨[(0,.i),(1,.i),(6,.c x64)],[]⟩)])]⟩
def Gy:Sig:=.of [CY,WE] [Df,CY] (fun a=>Dz N a.1 a.2)
theorem F7:CX 192 (Gy N):=Dc (CZ [(283,Ol N)] rV) wR Tryz.f192 N (ctx_ok ⟨PW N,trivial⟩)
def vX:List (Nat×Nrm):=[(3,⟨[0,1,5],[],[],[],[]⟩),(10,⟨[0,1,5],[],[],[],[]⟩),(11,⟨[0,1],[],[],[(0,1012288),(1008192,1012288)],[]⟩),(22,⟨[0,1,6],[],[],[(0,1008192),(40704,1008192)],[]⟩)]
def yU:Lk:=⟨[],[(10,⟨[(0,.c (xo 0)),(1,.i),(5,.c x64)],[(0,.arr 5 true Ar)]⟩,[(0,⟨[(0,.c (xo 0)),(1,.i),(5,.c x64)],[(0,.arr 5 true Ar)]⟩)]),(22,⟨[(0,.c (xo 1008192)),(1,.i),(6,.c x64)],[(1008192,.arr 5 true Ar)]⟩,[(2,⟨[(0,.c (xo 1012288)),(1,.i)],[(1012288,.arr 5 true Ar)]⟩)])]⟩
def jU:Sig:=.of [Acf,CY] [Acf] (fun a=>iE N a.1 a.2)
theorem oJ:CX 282 (jU N):=Dc (CZ [] vX) yU Tryz.f282 N (ctx_ok trivial)
def X6:List (Nat×Nrm):=[(3,⟨[0,3],[],[],[],[]⟩),(11,⟨[5],[([5],5,Ar,1012288)],[],[(1008192,1012288)],[]⟩),(14,⟨[0,3,4],[],[],[],[]⟩),(34,⟨[0,3,5,18,19],[([5],5,Ar,1008192)],[],[(41216,1008192)],[]⟩)]
def Yn:Lk:=⟨[],[(14,⟨[(0,.i),(3,.c x64),(4,.c x64)],[]⟩,[(0,⟨[(0,.i),(3,.c x64)],[]⟩)]),(34,⟨[(0,.i),(3,.i),(5,.c (xo 1008192)),(18,.i),(19,.c x64)],[(1008192,.arr 5 false Ar)]⟩,[(2,⟨[(5,.c (xo 1012288))],[(1012288,.arr 5 false Ar)]⟩)])]⟩
def KC:Sig:=.of [CY] [Df] (fun a=>FY N a)
theorem Np:CX 203 (KC N):=Dc (CZ [] X6) Yn Tryz.f203 N (ctx_ok trivial)
def ZZ:Sig:=.of [CY] [CY] (fun a=>Pj N a)
theorem WX:CX 393 (ZZ N):=Dc (CZ [] []) ⟨[],[]⟩ Tryz.f393 N (ctx_ok trivial)
def Yw:Sig:=.of [CY] [Du] (fun a=>WY N a)
theorem eY:CX 394 (Yw N):=Dc (CZ [] []) ⟨[],[]⟩ Tryz.f394 N (ctx_ok trivial)
def qK:List (Nat×Nrm):=[(3,⟨[0,1,7],[],[],[(0,1004096),(1000000,1004096)],[]⟩),(11,⟨[0],[],[],[],[]⟩),(14,⟨[0,1,2,7,8],[],[],[(0,1000000),(37632,1000000)],[]⟩),(30,⟨[0,1,7,9],[],[],[],[]⟩)]
def uU:Lk:=⟨[],[(14,⟨[(0,.c (xo 1000000)),(1,.i),(2,.i),(7,.i),(8,.c x64)],[(1000000,.arr 5 false Ar)]⟩,[(0,⟨[(0,.c (xo 1004096)),(1,.i),(7,.i)],[(1004096,.arr 5 false Ar)]⟩)]),(30,⟨[(0,.c (xo 1004096)),(1,.c x64),(7,.i),(9,.c x64)],[(1004096,.arr 5 false Ar)]⟩,[(2,⟨[(0,.c (xo 1004096))],[(1004096,.arr 5 false Ar)]⟩)])]⟩
def aC:Sig:=.of [Acg,CY,CY] [Acg] (fun a=>UZ N a.1 a.2.1 a.2.2)
theorem kJ:CX 207 (aC N):=Dc (CZ [] qK) uU Tryz.f207 N (ctx_ok trivial)
def iW:Sig:=.of [.cell false (.int .u8)] [Du] (fun a=>QW N a)
theorem Yt:CX 416 (iW N):=Dc (CZ [(417,VY N),(418,Jo N)] []) ⟨[],[]⟩ Tryz.f416 N (ctx_ok ⟨ZI N,KT N,trivial⟩)
def kU:List (Nat×Nrm):=[(3,⟨[],[],[],[],[]⟩),(18,⟨[32,33,34],[],[],[],[]⟩)]
def o7:Lk:=⟨[],[(18,⟨[(32,.c (xo 40960)),(33,.i),(34,.c x64)],[(40960,.arr 5 false Ar)]⟩,[(0,⟨[],[]⟩)])]⟩
def Xq:Sig:=.of [Df] [Du] (fun a=>Vo N a)
theorem bG:CX 399 (Xq N):=Dc (CZ [(455,JJ N),(456,P5 N),(457,QF N),(418,Jo N)] kU [] [] [] [9,13,14,18,19,26,27,30]) o7 Tryz.f399 N (ctx_ok ⟨LP N,QG N,RZ N,KT N,trivial⟩)
def kT:List (Nat×Nrm):=[(3,⟨[],[],[],[],[]⟩),(18,⟨[27,28,29],[],[],[],[]⟩)]
def o6:Lk:=⟨[],[(18,⟨[(27,.c (xo 39680)),(28,.i),(29,.c x64)],[(39680,.arr 5 false Ar)]⟩,[(0,⟨[],[]⟩)])]⟩
def Xp:Sig:=.of [Df] [Du] (fun a=>bD N a)
theorem bF:CX 458 (Xp N):=Dc (CZ [(456,P5 N),(457,QF N)] kT [] [] [] [8,12,13,17,18,25]) o6 Tryz.f458 N (ctx_ok ⟨QG N,RZ N,trivial⟩)
def kR:List (Nat×Nrm):=[(3,⟨[],[],[],[],[]⟩),(26,⟨[3,4,5,6],[],[],[],[]⟩)]
def o5:Lk:=⟨[],[(26,⟨[(3,.i),(4,.i),(5,.c xb),(6,.c x64)],[]⟩,[(0,⟨[],[]⟩)])]⟩
def Xo:Sig:=.of [Df] [Du] (fun a=>Vk N a)
theorem aZ:CX 423 (Xo N):=Dc (CZ [(469,VL N),(470,bC N)] kR [] [] [] [32,34,35,38,42,43]) o5 Tryz.f423 N (ctx_ok ⟨Zi N,kS N,trivial⟩)
def XG:Sig:=.of [Df,Df] [Du] (fun a=>VD N a.1 a.2)
theorem dL:CX 493 (XG N):=Dc (CZ [(515,YM N)] []) ⟨[],[]⟩ Tryz.f493 N (ctx_ok ⟨iV N,trivial⟩)
def WS:Sig:=.of [CY] [Du] (fun a=>MG N a)
theorem ZV:CX 236 (WS N):=Dc (CZ [(65,WJ N)] []) ⟨[],[]⟩ Tryz.f236 N (ctx_ok ⟨WL N,trivial⟩)
def DJ:Sig:=.of [.box [(false,.bool)],CY,WE] [Df] (fun a=>Dh N a.1 a.2.1 a.2.2)
theorem D9:CX 103 (DJ N):=Dc (CZ [(192,Gy N),(104,Es N)] []) ⟨[],[]⟩ Tryz.f103 N (ctx_ok ⟨F7 N,Ef N,trivial⟩)
def Xb (N n:Nat):Sig:=.of [.cell false (.int .i64)] [.cell false (.int .i64)] (fD N n)
theorem aF:DynOk Tryz.prog (Xb N):=disp_ok (pars:=[.cell false (.int .i64)]) (ress:=[.cell false (.int .i64)]) (l:=[(393,fun a=>Pj N a)]) ⟨WX N,trivial⟩
def oC:List (Nat×Nrm):=[(3,⟨[2,3],[],[],[(33637,1012288),(1000000,1012288)],[]⟩),(11,⟨[0,2,3,4,5],[([5],149,Tq0,1008192)],[],[(33637,1008208),(1004096,1008192),(1004112,1008208)],[]⟩),(14,⟨[0,2,3,4],[],[],[(33637,1000000),(44288,1000000)],[]⟩),(30,⟨[0,2,3,4,5,6],[([5],149,Tq0,1004096)],[],[(33637,1004112),(43008,1004096),(1000000,1004112)],[]⟩)]
def qX:Lk:=⟨[],[(14,⟨[(0,.c AO),(2,.c AB),(3,.c AL),(4,.c x64)],[(0,.box Bz),(33280,.box BA),(33281,.arr0 147 false Aq),(33536,.box [(xo 1000000)]),(1000000,.arr 147 false Aq)]⟩,[(0,⟨[(2,.c AB),(3,.c AL)],[(0,.box Bz),(33280,.box BA),(33281,.arr0 147 false Aq),(33536,.box [(xo 1012288)]),(1012288,.arr 147 false Aq)]⟩)]),(30,⟨[(0,.c AO),(2,.c AB),(3,.c AL),(4,.i),(5,.c (xo 1004096)),(6,.c x64)],[(0,.box Bz),(33280,.box BA),(33281,.arr0 147 false Aq),(33536,.box [(xo 1004112)]),(1004096,.arr 149 false Tq0),(1004112,.arr 147 false Aq)]⟩,[(2,⟨[(0,.c AO),(2,.c AB),(3,.c AL),(4,.i),(5,.c (xo 1008192))],[(0,.box Bz),(33280,.box BA),(33281,.arr0 147 false Aq),(33536,.box [(xo 1008208)]),(1008192,.arr 149 false Tq0),(1008208,.arr 147 false Aq)]⟩)])]⟩
def Y7:Sig:=.of [Sq0] [Sq1] (fun a=>Si N a)
theorem gQ:CX 72 (Y7 N):=Dc (CZ [(39,EY N),(160,QI N)] oC) qX Tryz.f72 N (ctx_ok ⟨EJ N,Wq N,trivial⟩)
def PT:Sig:=.of [Df,Df] [Du] (fun a=>Nq N a.1 a.2)
theorem V5:CX 425 (PT N):=Dc (CZ [(471,XA N)] []) ⟨[],[]⟩ Tryz.f425 N (ctx_ok ⟨dD N,trivial⟩)
def Vh:List (Nat×Nrm):=[(3,⟨[0,4],[],[(none,4,Ar)],[],[]⟩),(13,⟨[0,1],[],[],[],[]⟩),(22,⟨[0,4],[],[(none,4,Ar)],[],[41728]⟩)]
def Wn:Lk:=⟨[(13,⟨[(0,.c AO),(1,.i)],[(0,.box Bo)]⟩)],[(22,⟨[(0,.c AO),(4,.c Bg)],[(0,.box Bo)]⟩,[(0,⟨[(0,.c AO),(4,.c Bg)],[(0,.box Bo)]⟩)])]⟩
def ND:Sig:=.of [Sq7,Df] [] (fun a=>Ij N a.1 a.2)
theorem Tq:CX 403 (ND N):=Dc (CZ [(460,NV N),(461,JB N)] Vh) Wn Tryz.f403 N (ctx_ok ⟨PN N,LJ N,trivial⟩)
def Xk:List (Nat×Nrm):=[(3,⟨[3,4,5],[],[],[(41984,1008192),(1004096,1008192)],[1008192]⟩),(11,⟨[3,4],[],[],[],[]⟩),(19,⟨[3],[],[],[],[]⟩),(27,⟨[7],[],[],[],[]⟩),(29,⟨[3,4,5],[([4],5,Ar,1000000)],[],[(41216,1000000)],[]⟩),(34,⟨[3,4,5],[],[],[(41984,1004096),(43776,1004096)],[]⟩),(46,⟨[3,4,5,6],[],[],[(47616,1008192)],[]⟩),(58,⟨[3,4],[],[(none,4,Ar)],[],[]⟩),(78,⟨[7,68,69],[([7],5,Ar,1028672)],[],[(54528,1028672)],[]⟩)]
def Yh:Lk:=⟨[(29,⟨[(3,.c (.c (.oelt 33536 0 0))),(4,.c (xo 1000000)),(5,.c x64)],[(0,.box Bo),(33536,.arr 415 false Au),(1000000,.arr 5 false Ar)]⟩)],[(34,⟨[(3,.c (.c (.oelt 33536 0 0))),(4,.c (xo 1004096)),(5,.i)],[(0,.box Bo),(33536,.arr 415 false Au),(1004096,.arr 5 false Ar)]⟩,[(0,⟨[(3,.c (.c (.oelt 33536 0 0))),(4,.c (xo 1008192)),(5,.i)],[(0,.box Bo),(33536,.arr 415 false Au),(1008192,.arr 5 true Ar)]⟩)]),(46,⟨[(3,.c (.c (.oelt 33536 0 0))),(4,.c (xo 1008192)),(5,.i),(6,.c x64)],[(0,.box Bo),(33536,.arr 415 false Au),(1008192,.arr 5 true Ar)]⟩,[(2,⟨[(3,.c (.c (.oelt 33536 0 0))),(4,.c (xo 1008192))],[(0,.box Bo),(33536,.arr 415 false Au),(1008192,.arr 5 true Ar)]⟩)]),(58,⟨[(3,.c (.c (.oelt 33536 0 0))),(4,.c Bg)],[(0,.box Bo),(33536,.arr 415 false Au)]⟩,[(4,⟨[(3,.c (.c (.oelt 33536 0 0)))],[(0,.box Bo),(33536,.arr 415 false Au)]⟩)]),(78,⟨[(7,.c (xo 1028672)),(68,.i),(69,.c x64)],[(0,.box Bo),(1028672,.arr 5 false Ar)]⟩,[(6,⟨[(7,.c (xo 1028672))],[(0,.box Bo),(1028672,.arr 5 false Ar)]⟩)])]⟩
def PM:Sig:=.of [Sq7] [Df] (fun a=>Jr N a)
theorem Vg:CX 404 (PM N):=Dc (CZ [(460,NV N),(461,JB N)] Xk) Yh Tryz.f404 N (ctx_ok ⟨PN N,LJ N,trivial⟩)
def TA:Sig:=.of [CY] [Df] (fun a=>G5 N a)
theorem Us:CX 12 (TA N):=Dc (CZ [(53,dH N),(52,YI N)] []) ⟨[],[]⟩ Tryz.f12 N (ctx_ok ⟨lN N,iO N,trivial⟩)
def TC:Sig:=.of [Df] [Du] (fun a=>OM N a)
theorem Uz:CX 303 (TC N):=Dc (CZ [(281,Vt N)] []) ⟨[],[]⟩ Tryz.f303 N (ctx_ok ⟨VP N,trivial⟩)
def jI (N n:Nat):Sig:=.of [.cell false (.int .u8)] [.cell false .bool] (sU N n)
theorem uZ:DynOk Tryz.prog (jI N):=disp_ok (pars:=[.cell false (.int .u8)]) (ress:=[.cell false .bool]) (l:=[(416,fun a=>QW N a),(419,fun a=>QX N a)]) ⟨Yt N,Yu N,trivial⟩
def qR:List (Nat×Nrm):=[(3,⟨[],[],[],[],[]⟩),(18,⟨[9,10,11],[],[],[],[]⟩)]
def vJ:Lk:=⟨[],[(18,⟨[(9,.i),(10,.i),(11,.c x64)],[]⟩,[(0,⟨[],[]⟩)])]⟩
def ML:Sig:=.of [Df] [Du] (fun a=>Ie N a)
theorem KZ:CX 400 (ML N):=Dc (CZ [(385,Jv N),(458,Xp N)] qR) vJ Tryz.f400 N (ctx_ok ⟨OY N,bF N,trivial⟩)
def ZP:List (Nat×Nrm):=[(3,⟨[2,3],[([3],147,Aq,1004096)],[],[(1000000,1004096)],[]⟩),(14,⟨[2,3,7,8,9],[([3],147,Aq,1000000)],[],[(37120,1000000)],[]⟩)]
def eF:Lk:=⟨[],[(14,⟨[(2,.c AB),(3,.c (xo 1000000)),(7,.i),(8,.i),(9,.c x64)],[(33280,.box BA),(33281,.arr0 147 false Aq),(1000000,.arr 147 false Aq)]⟩,[(0,⟨[(2,.c AB),(3,.c (xo 1004096))],[(33280,.box BA),(33281,.arr0 147 false Aq),(1004096,.arr 147 false Aq)]⟩)])]⟩
def NP:Sig:=.of [Sq1] [Sq1] (fun a=>J5 N a)
theorem PE:CX 150 (NP N):=Dc (CZ [] ZP) eF Tryz.f150 N (ctx_ok trivial)
def Og:Sig:=.of [Df] [Du,CY] (fun a=>QN N a)
theorem PR:CX 391 (Og N):=Dc (CZ [] []) ⟨[],[]⟩ Tryz.f391 N (ctx_ok trivial)
def cZ:Sig:=.of [Df,CY] [Du] (fun a=>Vz N a.1 a.2)
theorem lI:CX 463 (cZ N):=Dc (CZ [] []) ⟨[],[]⟩ Tryz.f463 N (ctx_ok trivial)
def Uu:Sig:=.of [Jf] [CY] (fun a=>Iu N a)
theorem Yl:CX 152 (Uu N):=Dc (CZ [] [] [] [] [] [6,10,11,16,17,22]) ⟨[],[]⟩ Tryz.f152 N (ctx_ok trivial)
def gW:List (Nat×Nrm):=[(3,⟨[4],[],[],[],[]⟩),(22,⟨[4,12,13,14],[],[],[],[]⟩)]
def kX:Lk:=⟨[],[(22,⟨[(4,.c x64),(12,.c (xo 35840)),(13,.i),(14,.c x64)],[(35840,.arr 5 false Ar)]⟩,[(0,⟨[(4,.c x64)],[]⟩)])]⟩
def VO:Sig:=.of [Df] [CY,Du] (fun a=>Je N a)
theorem Zr:CX 153 (VO N):=Dc (CZ [] gW) kX Tryz.f153 N (ctx_ok trivial)
def Yo:List (Nat×Nrm):=[(3,⟨[],[],[],[],[]⟩),(11,⟨[2,3,20,21],[],[],[],[]⟩),(18,⟨[2,3,20,21],[],[],[],[]⟩),(19,⟨[2,3,5,8,20,21,41,42,43],[],[],[],[]⟩),(38,⟨[2,3,5,20,21,41,42,43],[],[],[],[]⟩),(54,⟨[2,3,5,7,8,20,21,41,42,43,51,52,53],[],[],[],[]⟩)]
def ZB:Lk:=⟨[],[(18,⟨[(2,.c AB),(3,.c AL),(20,.i),(21,.c x64)],[(33280,.box [Bc]),(33536,.box [Bc])]⟩,[(0,⟨[],[]⟩)]),(38,⟨[(2,.c AB),(3,.c AL),(5,.i),(20,.i),(21,.i),(41,.i),(42,.i),(43,.c x64)],[(33280,.box [Bc]),(33536,.box [Bc])]⟩,[(2,⟨[(2,.c AB),(3,.c AL),(20,.i),(21,.i)],[(33280,.box [Bc]),(33536,.box [Bc])]⟩)]),(54,⟨[(2,.c AB),(3,.c AL),(5,.i),(7,.c AZ),(8,.c xb),(20,.i),(21,.i),(41,.i),(42,.i),(43,.i),(51,.i),(52,.i),(53,.c x64)],[(33280,.box [Bc]),(33536,.box [Bc]),(34560,.box [xs,x64,xs])]⟩,[(4,⟨[(2,.c AB),(3,.c AL),(5,.i),(8,.c xb),(20,.i),(21,.i),(41,.i),(42,.i),(43,.i)],[(33280,.box [Bc]),(33536,.box [Bc])]⟩)])]⟩
def IQ:Sig:=.of [Sq1,Sq1] [Du] (fun a=>DX N a.1 a.2)
theorem Jm:CX 25 (IQ N):=Dc (CZ [] Yo) ZB Tryz.f25 N (ctx_ok trivial)
def nT:List (Nat×Nrm):=[(3,⟨[3],[],[],[],[]⟩),(14,⟨[3,9,10,11],[],[],[],[]⟩)]
def qO:Lk:=⟨[],[(14,⟨[(3,.c (xo 34816)),(9,.i),(10,.i),(11,.c x64)],[(34816,.mp Aw Az)]⟩,[(0,⟨[(3,.c (xo 34816))],[(34816,.mp Aw Az)]⟩)])]⟩
def Yy:Sig:=.of [.cell false (.sl 238 Tq4)] [Adx] (fun a=>RV N a)
theorem fP:CX 302 (Yy N):=Dc (CZ [] nT) qO Tryz.f302 N (ctx_ok trivial)
def YQ:Sig:=.of [CY] [CY] (fun a=>XK N a)
theorem jC:CX 384 (YQ N):=Dc (CZ [] []) ⟨[],[]⟩ Tryz.f384 N (ctx_ok trivial)
def KA:Sig:=.of [Du] [Df] (fun a=>Js N a)
theorem Nk:CX 305 (KA N):=Dc (CZ [] []) ⟨[],[]⟩ Tryz.f305 N (ctx_ok trivial)
def Py:Sig:=.of [CY] [CY] (fun a=>KL N a)
theorem QC:CX 406 (Py N):=Dc (CZ [] []) ⟨[],[]⟩ Tryz.f406 N (ctx_ok trivial)
def Z4:List (Nat×Nrm):=[(3,⟨[0,4],[],[],[],[]⟩),(11,⟨[5],[],[],[],[]⟩),(18,⟨[0,4],[],[],[],[]⟩),(38,⟨[0,5,34,35],[],[],[],[]⟩)]
def cO:Lk:=⟨[],[(18,⟨[(0,.i),(4,.c x64)],[]⟩,[(0,⟨[(0,.i),(4,.c x64)],[]⟩)]),(38,⟨[(0,.i),(5,.c (xo 38912)),(34,.i),(35,.c x64)],[(38912,.arr 5 false Ar)]⟩,[(2,⟨[(5,.c (xo 38912))],[(38912,.arr 5 false Ar)]⟩)])]⟩
def Nl:Sig:=.of [CY] [Df,CY] (fun a=>F5 N a)
theorem OU:CX 307 (Nl N):=Dc (CZ [] Z4) cO Tryz.f307 N (ctx_ok trivial)
def Ld:Sig:=.of [.box [(false,.bool)]] [Du] (fun a=>EZ N a)
theorem Jh:CX 131 (Ld N):=Dc (CZ [] []) ⟨[],[]⟩ Tryz.f131 N (ctx_ok trivial)
def Gw:Sig:=.of [YU] [Du] (fun a=>Ed N a)
theorem Ha:CX 70 (Gw N):=Dc (CZ [] []) ⟨[],[]⟩ Tryz.f70 N (ctx_ok trivial)
def Ox:Sig:=.of [CY] [Df] (fun a=>OI N a)
theorem Oa:CX 223 (Ox N):=Dc (CZ [] []) ⟨[],[]⟩ Tryz.f223 N (ctx_ok trivial)
def Y9:Sig:=.of [CY] [Df] (fun a=>X3 N a)
theorem gX:CX 243 (Y9 N):=Dc (CZ [] []) ⟨[],[]⟩ Tryz.f243 N (ctx_ok trivial)
def Vx:Sig:=.of [CY] [Df] (fun a=>UB N a)
theorem TE:CX 327 (Vx N):=Dc (CZ [] []) ⟨[],[]⟩ Tryz.f327 N (ctx_ok trivial)
def Zz:Sig:=.of [CY] [Df] (fun a=>UA N a)
theorem YF:CX 328 (Zz N):=Dc (CZ [] []) ⟨[],[]⟩ Tryz.f328 N (ctx_ok trivial)
def rC:List (Nat×Nrm):=[(3,⟨[3],[],[],[],[]⟩),(14,⟨[3,10,11,12],[],[],[],[]⟩)]
def wF:Lk:=⟨[],[(14,⟨[(3,.c (xo 35072)),(10,.i),(11,.i),(12,.c x64)],[(35072,.arr 5 false Ar)]⟩,[(0,⟨[(3,.c (xo 35072))],[(35072,.arr 5 false Ar)]⟩)])]⟩
def Vy:Sig:=.of [WE] [Df] (fun a=>QK N a)
theorem VS:CX 311 (Vy N):=Dc (CZ [] rC [] [] [20]) wF Tryz.f311 N (ctx_ok trivial)
def Na:Sig:=.of [Df,CY] [CY] (fun a=>Hm N a.1 a.2)
theorem OO:CX 239 (Na N):=Dc (CZ [] []) ⟨[],[]⟩ Tryz.f239 N (ctx_ok trivial)
def NF:Sig:=.of [Ady] [Df] (fun a=>PQ N a)
theorem TB:CX 159 (NF N):=Dc (CZ [] []) ⟨[],[]⟩ Tryz.f159 N (ctx_ok trivial)
def lC:List (Nat×Nrm):=[(3,⟨[4,5],[([4],3,Az,1004096)],[],[(1000000,1004096)],[]⟩),(26,⟨[4,5,14,15,16],[([4],3,Az,1000000)],[],[(40448,1000000)],[]⟩)]
def oM:Lk:=⟨[],[(26,⟨[(4,.c (xo 1000000)),(5,.c x64),(14,.c (xo 36352)),(15,.i),(16,.c x64)],[(36352,.arr 5 false Ar),(1000000,.arr 3 false Az)]⟩,[(0,⟨[(4,.c (xo 1004096)),(5,.c x64)],[(1004096,.arr 3 false Az)]⟩)])]⟩
def QJ:Sig:=.of [Df] [Sq6,CY] (fun a=>IL N a)
theorem Sm:CX 240 (QJ N):=Dc (CZ [] lC) oM Tryz.f240 N (ctx_ok trivial)
def QP:Sig:=.of [Df,CY] [Du] (fun a=>JZ N a.1 a.2)
theorem Sz:CX 193 (QP N):=Dc (CZ [] []) ⟨[],[]⟩ Tryz.f193 N (ctx_ok trivial)
def IB:Sig:=.of [Ku] [Jf,CY] (fun a=>G8 N a)
theorem Jg:CX 135 (IB N):=Dc (CZ [] []) ⟨[],[]⟩ Tryz.f135 N (ctx_ok trivial)
def iD:List (Nat×Nrm):=[(3,⟨[3],[([3],3,Az,1016384)],[],[(1000000,1016384)],[]⟩),(7,⟨[0,3,4],[],[],[],[]⟩),(11,⟨[],[],[],[],[]⟩),(14,⟨[0,3,4],[([3],3,Az,1000000)],[],[(42240,1000000)],[]⟩),(30,⟨[0,3,4,5],[([3],3,Az,1004096)],[],[(1000000,1004096)],[]⟩)]
def l7:Lk:=⟨[],[(14,⟨[(0,.i),(3,.c (xo 1000000)),(4,.c x64)],[(1000000,.arr 3 false Az)]⟩,[(0,⟨[(3,.c (xo 1016384))],[(1016384,.arr 3 false Az)]⟩)]),(30,⟨[(0,.i),(3,.c (xo 1004096)),(4,.c x64),(5,.c x64)],[(1004096,.arr 3 false Az)]⟩,[(1,⟨[(0,.i),(3,.c (xo 42240)),(4,.c x64)],[(42240,.arr 3 false Az)]⟩),(2,⟨[],[]⟩)])]⟩
def VQ:Sig:=.of [Df] [Sq6] (fun a=>YE N a)
theorem Zv:CX 322 (VQ N):=Dc (CZ [] iD) l7 Tryz.f322 N (ctx_ok trivial)
def EC:Sig:=.of [Ku] [CY] (fun a=>DZ N a)
theorem Ez:CX 62 (EC N):=Dc (CZ [] []) ⟨[],[]⟩ Tryz.f62 N (ctx_ok trivial)
def bZ:List (Nat×Nrm):=[(3,⟨[4],[],[],[],[]⟩),(30,⟨[0,4,42,43],[],[],[],[]⟩)]
def iI:Lk:=⟨[],[(30,⟨[(0,.i),(4,.c x64),(42,.i),(43,.c x64)],[]⟩,[(0,⟨[(4,.c x64)],[]⟩)])]⟩
def Oh:Sig:=.of [Df] [CY,CY] (fun a=>GL N a)
theorem PS:CX 225 (Oh N):=Dc (CZ [] bZ [] [] [] [8,12,16,20,21,25,29,30,31,32]) iI Tryz.f225 N (ctx_ok trivial)
def ZJ:List (Nat×Nrm):=[(3,⟨[],[],[],[],[]⟩),(10,⟨[0,3],[],[],[],[]⟩)]
def dQ:Lk:=⟨[],[(10,⟨[(0,.i),(3,.c x64)],[]⟩,[(0,⟨[],[]⟩)])]⟩
def SK:Sig:=.of [.cell false (.sl 119 Tq5)] [Du] (fun a=>VZ N a)
theorem XJ:CX 312 (SK N):=Dc (CZ [] ZJ) dQ Tryz.f312 N (ctx_ok trivial)
def fB:List (Nat×Nrm):=[(3,⟨[3],[],[],[],[]⟩),(14,⟨[3,7,8,9],[],[],[],[]⟩)]
def kH:Lk:=⟨[],[(14,⟨[(3,.c x64),(7,.c (xo 34560)),(8,.i),(9,.c x64)],[(34560,.arr 5 false Ar)]⟩,[(0,⟨[(3,.c x64)],[]⟩)])]⟩
def Pq:Sig:=.of [Df] [CY] (fun a=>Ib N a)
theorem Q5:CX 314 (Pq N):=Dc (CZ [] fB) kH Tryz.f314 N (ctx_ok trivial)
def FC:Sig:=.of [Ku,CY] [Jf,Du] (fun a=>D5 N a.1 a.2)
theorem F8:CX 139 (FC N):=Dc (CZ [] []) ⟨[],[]⟩ Tryz.f139 N (ctx_ok trivial)
def Kv:Sig:=.of [Ku] [CY] (fun a=>Fh N a)
theorem MI:CX 228 (Kv N):=Dc (CZ [] []) ⟨[],[]⟩ Tryz.f228 N (ctx_ok trivial)
def Pn:Sig:=.of [CY,CY] [CY] (fun a=>Jd N a.1 a.2)
theorem Q4:CX 290 (Pn N):=Dc (CZ [(394,Yw N)] []) ⟨[],[]⟩ Tryz.f290 N (ctx_ok ⟨eY N,trivial⟩)
def rU:List (Nat×Nrm):=[(3,⟨[0,2,5,6,7,8,9],[],[],[],[]⟩),(74,⟨[0,2,5,6,7,8,9,50,51,52],[],[],[],[]⟩),(101,⟨[0,2,5,6,7,8],[],[],[],[]⟩)]
def wQ:Lk:=⟨[(101,⟨[(0,.i),(2,.c AB),(5,.c AQ),(6,.i),(7,.c x64),(8,.c x64)],[(33280,.box [A7,A8,A8]),(34048,.box [A7,A8,A8])]⟩)],[(74,⟨[(0,.i),(2,.c AB),(5,.c AQ),(6,.i),(7,.c x64),(8,.i),(9,.i),(50,.c (xo 45568)),(51,.i),(52,.c x64)],[(33280,.box [A7,A8,A8]),(34048,.box [A7,A8,A8]),(45568,.arr 5 false Ar)]⟩,[(0,⟨[(0,.i),(2,.c AB),(5,.c AQ),(6,.i),(7,.c x64),(8,.i),(9,.i)],[(33280,.box [A7,A8,A8]),(34048,.box [A7,A8,A8])]⟩)])]⟩
def Qh:Sig:=.of [Df] [Jf,Df,CY] (fun a=>Ls N a)
theorem P9:CX 280 (Qh N):=Dc (CZ [(384,YQ N)] rU) wQ Tryz.f280 N (ctx_ok ⟨jC N,trivial⟩)
def Nb:Sig:=.of [Df,Df,CY] [CY] (fun a=>IZ N a.1 a.2.1 a.2.2)
theorem OQ:CX 309 (Nb N):=Dc (CZ [(239,Na N)] []) ⟨[],[]⟩ Tryz.f309 N (ctx_ok ⟨OO N,trivial⟩)
def UD:Sig:=.of [Df,CY] [Df,CY] (fun a=>Nj N a.1 a.2)
theorem Ym:CX 105 (UD N):=Dc (CZ [(193,QP N)] []) ⟨[],[]⟩ Tryz.f105 N (ctx_ok ⟨Sz N,trivial⟩)
def ED:Sig:=.of [Ku,CY] [Jf,CY] (fun a=>Ea N a.1 a.2)
theorem E5:CX 58 (ED N):=Dc (CZ [(135,IB N)] []) ⟨[],[]⟩ Tryz.f58 N (ctx_ok ⟨Jg N,trivial⟩)
def kY:List (Nat×Nrm):=[(3,⟨[7],[([7],9,Aw,1004096)],[],[(1000000,1004096)],[]⟩),(34,⟨[7,36,37,38],[([7],9,Aw,1000000)],[],[(45056,1000000)],[]⟩)]
def oG:Lk:=⟨[],[(34,⟨[(7,.c (xo 1000000)),(36,.c (xo 41728)),(37,.i),(38,.c x64)],[(41728,.arr 3 false Az),(1000000,.arr 9 false Aw)]⟩,[(0,⟨[(7,.c (xo 1004096))],[(1004096,.arr 9 false Aw)]⟩)])]⟩
def MV:Sig:=.of [Df] [Df,CY] (fun a=>JY N a)
theorem MW:CX 232 (MV N):=Dc (CZ [(322,VQ N),(323,UM N),(283,Ol N)] kY) oG Tryz.f232 N (ctx_ok ⟨Zv N,Yr N,PW N,trivial⟩)
def WZ:Sig:=.of [CY,Df] [zW] (fun a=>aA N a.1 a.2)
theorem aB:CX 316 (WZ N):=Dc (CZ [(314,Pq N)] []) ⟨[],[]⟩ Tryz.f316 N (ctx_ok ⟨Q5 N,trivial⟩)
def Xa:List (Nat×Nrm):=[(29,⟨[8,9],[],[],[],[]⟩)]
def Ye:Lk:=⟨[(29,⟨[(8,.i),(9,.c x64)],[(0,.box [Bh])]⟩)],[]⟩
def PH:Sig:=.of [Ku,CY] [Du,CY] (fun a=>DI N a.1 a.2)
theorem Va:CX 410 (PH N):=Dc (CZ [(139,FC N),(391,Og N)] Xa) Ye Tryz.f410 N (ctx_ok ⟨F8 N,PR N,trivial⟩)
def nK:List (Nat×Nrm):=[(3,⟨[],[],[],[],[]⟩),(10,⟨[3,7,8,9],[],[],[],[]⟩)]
def qL:Lk:=⟨[],[(10,⟨[(3,.c AL),(7,.i),(8,.i),(9,.c x64)],[(33536,.box [xs,x64,xs])]⟩,[(0,⟨[],[]⟩)])]⟩
def Yx:Sig:=.of [.cell false (.sl 149 Tq0),Sq2] [Du] (fun a=>RN N a.1 a.2)
theorem fJ:CX 453 (Yx N):=Dc (CZ [(493,XG N)] nK) qL Tryz.f453 N (ctx_ok ⟨dL N,trivial⟩)
def EU:Sig:=.of [.box [(false,.bool)],WE] [Df] (fun a=>Dq N a.1 a.2)
theorem EI:CX 101 (EU N):=Dc (CZ [(103,DJ N)] []) ⟨[],[]⟩ Tryz.f101 N (ctx_ok ⟨D9 N,trivial⟩)
def kZ:List (Nat×Nrm):=[(3,⟨[5],[],[],[(37888,1004096),(1000000,1004096)],[]⟩),(26,⟨[5,22,23,24],[],[],[(37888,1000000),(40448,1000000)],[]⟩)]
def oH:Lk:=⟨[],[(26,⟨[(5,.c (xo 1000000)),(22,.i),(23,.i),(24,.c x64)],[(1000000,.arr 5 true Ar)]⟩,[(0,⟨[(5,.c (xo 1004096))],[(1004096,.arr 5 true Ar)]⟩)])]⟩
def MX:Sig:=.of [Df] [Df,CY] (fun a=>IK N a)
theorem MZ:CX 191 (MX N):=Dc (CZ [(281,Vt N),(282,jU N)] kZ) oH Tryz.f191 N (ctx_ok ⟨VP N,oJ N,trivial⟩)
def IE:Sig:=.of [.box [(false,.bool)],CY] [Df] (fun a=>D6 N a.1 a.2)
theorem Ji:CX 112 (IE N):=Dc (CZ [(203,KC N),(103,DJ N)] []) ⟨[],[]⟩ Tryz.f112 N (ctx_ok ⟨Np N,D9 N,trivial⟩)
def Pm:Sig:=.of [CY] [CY] (fun a=>Ot N a)
theorem Q3:CX 289 (Pm N):=Dc (CZ [] [] [] [(7,Xb N),(12,Xb N)]) ⟨[],[]⟩ Tryz.f289 N (ctx_ok trivial trivial ⟨aF N,aF N,trivial⟩)
def LQ:Sig:=.of [Df] [Jf,CY] (fun a=>Ko N a)
theorem JK:CX 189 (LQ N):=Dc (CZ [(280,Qh N)] []) ⟨[],[]⟩ Tryz.f189 N (ctx_ok ⟨P9 N,trivial⟩)
def lV:List (Nat×Nrm):=[(3,⟨[],[],[],[],[]⟩),(18,⟨[1,5],[],[],[],[]⟩)]
def pU:Lk:=⟨[],[(18,⟨[(1,.i),(5,.c xs)],[]⟩,[(0,⟨[],[]⟩)])]⟩
def PD (N n:Nat):Sig:=.of [Jf,.cell false (.int .i64)] [.cell false (.int .i64)] (fun a=>IU N n a.1 a.2)
theorem Rf (N:Nat): ∀ n,Spec Tryz.prog 405 (PD N n)
  | 0=>spec_none (C:=ctx Tryz.prog [] []) (fn:=Tryz.f405) (ctx_ok (gs:=[]) trivial) (by kernel_rfl) (by kernel_rfl)
  | n+1=>spec_of_exe (C:=ctx Tryz.prog ((405,PD N n)::[(280,Qh N)]) lV) (L:=pU) (fn:=Tryz.f405) (N:=N) (ctx_ok ⟨Rf N n,⟨P9 N,trivial⟩⟩)
def XL:Sig:=PD N N
theorem dR:Spec Tryz.prog 405 (XL N):=Rf N N
def PI:Sig:=.of [.box [(false,.bool)],CY,Du] [Df] (fun a=>Et N a.1 a.2.1 a.2.2)
theorem Vb:CX 308 (PI N):=Dc (CZ [(305,KA N),(103,DJ N)] []) ⟨[],[]⟩ Tryz.f308 N (ctx_ok ⟨Nk N,D9 N,trivial⟩)
def TF:Sig:=.of [Df] [Df,CY,CY] (fun a=>OT N a)
theorem UC:CX 143 (TF N):=Dc (CZ [(193,QP N)] []) ⟨[],[]⟩ Tryz.f143 N (ctx_ok ⟨Sz N,trivial⟩)
def UG:List (Nat×Nrm):=[(3,⟨[],[],[],[],[]⟩),(18,⟨[0,1,12,13],[],[],[],[]⟩)]
def V7:Lk:=⟨[],[(18,⟨[(0,.i),(1,.i),(12,.i),(13,.c x64)],[]⟩,[(0,⟨[],[]⟩)])]⟩
def IP:Sig:=.of [.cell false (.sl 102 Tq1),.cell false (.sl 102 Tq1)] [Du] (fun a=>Eb N a.1 a.2)
theorem Kt:CX 66 (IP N):=Dc (CZ [(25,IQ N)] UG) V7 Tryz.f66 N (ctx_ok ⟨Jm N,trivial⟩)
def Nz:Sig:=.of [YU] [CY] (fun a=>H9 N a)
theorem Ru:CX 132 (Nz N):=Dc (CZ [(70,Gw N),(126,Gu N)] []) ⟨[],[]⟩ Tryz.f132 N (ctx_ok ⟨Ha N,GZ N,trivial⟩)
def rQ:List (Nat×Nrm):=[(3,⟨[4],[([4],119,Tq5,1004096)],[],[(1000000,1004096)],[]⟩),(10,⟨[0,4],[([4],119,Tq5,1000000)],[],[(38400,1000000)],[]⟩)]
def wP:Lk:=⟨[],[(10,⟨[(0,.c xs),(4,.c (xo 1000000))],[(1000000,.arr 119 false Tq5)]⟩,[(0,⟨[(4,.c (xo 1004096))],[(1004096,.arr 119 false Tq5)]⟩)])]⟩
def Gx:Sig:=.of [Df] [.cell false (.sl 119 Tq5),CY] (fun a=>Gm N a)
theorem F6:CX 224 (Gx N):=Dc (CZ [(280,Qh N)] rQ) wP Tryz.f224 N (ctx_ok ⟨P9 N,trivial⟩)
def Qx:Sig:=.of [Ku] [CY,CY] (fun a=>I9 N a)
theorem RH:CX 136 (Qx N):=Dc (CZ [(58,ED N),(225,Oh N)] []) ⟨[],[]⟩ Tryz.f136 N (ctx_ok ⟨E5 N,PS N,trivial⟩)
def lH:List (Nat×Nrm):=[(3,⟨[8],[],[],[],[]⟩),(46,⟨[4,8,35,36],[],[],[],[]⟩)]
def oQ:Lk:=⟨[],[(46,⟨[(4,.i),(8,.c x64),(35,.i),(36,.c x64)],[]⟩,[(0,⟨[(8,.c x64)],[]⟩)])]⟩
def QO:Sig:=.of [Df] [CY,CY] (fun a=>IM N a)
theorem Sv:CX 411 (QO N):=Dc (CZ [(143,TF N),(463,cZ N)] lH) oQ Tryz.f411 N (ctx_ok ⟨UC N,lI N,trivial⟩)
def RI:Sig:=.of [Ku] [Df,CY] (fun a=>KW N a)
theorem WT:CX 61 (RI N):=Dc (CZ [(58,ED N),(143,TF N)] []) ⟨[],[]⟩ Tryz.f61 N (ctx_ok ⟨E5 N,UC N,trivial⟩)
def W9:List (Nat×Nrm):=[(3,⟨[],[],[],[],[]⟩),(18,⟨[0,1,12,13],[],[],[],[]⟩)]
def XE:Lk:=⟨[],[(18,⟨[(0,.i),(1,.i),(12,.i),(13,.c x64)],[]⟩,[(0,⟨[],[]⟩)])]⟩
def OX:Sig:=.of [.cell false (.sl 188 Tq2),.cell false (.sl 188 Tq2)] [Du] (fun a=>FK N a.1 a.2)
theorem UJ:CX 67 (OX N):=Dc (CZ [(66,IP N),(25,IQ N)] W9 [] [] [] [28,40,41,53,54,67]) XE Tryz.f67 N (ctx_ok ⟨Kt N,Jm N,trivial⟩)
def Jj:Sig:=.of [] [Df] (fun _=>EE N)
theorem KN:CX 102 (Jj N):=Dc (CZ [(191,MX N),(192,Gy N)] []) ⟨[],[]⟩ Tryz.f102 N (ctx_ok ⟨MZ N,F7 N,trivial⟩)
def Kr:Sig:=.of [Sq2] [Df,CY] (fun a=>Fa N a)
theorem Px:CX 204 (Kr N):=Dc (CZ [(191,MX N),(192,Gy N)] []) ⟨[],[]⟩ Tryz.f204 N (ctx_ok ⟨MZ N,F7 N,trivial⟩)
def kD:List (Nat×Nrm):=[(3,⟨[2,4,5,6],[],[],[],[]⟩),(11,⟨[2,4,5,6,7],[],[],[],[]⟩),(22,⟨[2,4,5,6],[],[],[],[]⟩),(38,⟨[2,4,5,6,7],[],[],[],[]⟩)]
def nJ:Lk:=⟨[],[(22,⟨[(2,.c AB),(4,.i),(5,.i),(6,.c x64)],[(33280,.box BD)]⟩,[(0,⟨[(2,.c AB),(4,.i),(5,.i),(6,.c x64)],[(33280,.box BD)]⟩)]),(38,⟨[(2,.c AB),(4,.c x64),(5,.i),(6,.i),(7,.c x64)],[(33280,.box BD)]⟩,[(2,⟨[(2,.c AB),(4,.c x64),(5,.i),(6,.i),(7,.c x64)],[(33280,.box BD)]⟩)])]⟩
def WV:Sig:=.of [CY] [zW,CY] (fun a=>ZW N a)
theorem ZX:CX 206 (WV N):=Dc (CZ [(289,Pm N),(290,Pn N)] kD) nJ Tryz.f206 N (ctx_ok ⟨Q3 N,Q4 N,trivial⟩)
def YO:Sig:=.of [Df] [CY] (fun a=>OZ N a)
theorem jA:CX 304 (YO N):=Dc (CZ [(189,LQ N),(405,XL N)] []) ⟨[],[]⟩ Tryz.f304 N (ctx_ok ⟨JK N,dR N,trivial⟩)
def Ze:List (Nat×Nrm):=[(49,⟨[1,6],[],[],[],[]⟩)]
def aS:Lk:=⟨[(49,⟨[(1,.c AV),(6,.c (xo 36864))],[(33024,.box [xs,xb,xs]),(36864,.arr 9 false Aw)]⟩)],[]⟩
def RU:Sig:=.of [uF] [Df,CY] (fun a=>IX N a)
theorem Xg:CX 219 (RU N):=Dc (CZ [(191,MX N),(192,Gy N),(305,KA N)] Ze) aS Tryz.f219 N (ctx_ok ⟨MZ N,F7 N,Nk N,trivial⟩)
def Fv:Sig:=.of [Df,CY] [Jf,CY] (fun a=>Ep N a.1 a.2)
theorem Il:CX 98 (Fv N):=Dc (CZ [(189,LQ N)] []) ⟨[],[]⟩ Tryz.f98 N (ctx_ok ⟨JK N,trivial⟩)
def G7 (N:Nat):Alt:=.of [.cell false .str] [Ku,.cell false (.int .i64)] [.cell false .ptr,.cell false (.int .i64)] (fun a=>EN N a)
theorem IA:Spec Tryz.prog 134 (G7 N).1/\Spec Tryz.prog 134 (G7 N).2.1:=alt_of_exe (C:=ctx Tryz.prog [(224,Gx N)] []) (L:=⟨[],[]⟩) (fn:=Tryz.f134) (N:=N) (ctx_ok ⟨F6 N,trivial⟩) (by kernel_rfl) (by kernel_rfl) (fun a=>by kernel_rfl)
def JD:Sig:=.of [Jf] [CY] (fun a=>FM N a)
theorem OD:CX 142 (JD N):=Dc (CZ [(224,Gx N),(232,MV N)] []) ⟨[],[]⟩ Tryz.f142 N (ctx_ok ⟨F6 N,MW N,trivial⟩)
def Q9:List (Nat×Nrm):=[(85,⟨[2,4,5,7],[],[],[],[]⟩)]
def Ro:Lk:=⟨[(85,⟨[(2,.c AB),(4,.c AP),(5,.i),(7,.i)],[(33280,.box [A8,A7,A8]),(33792,.box [A8,A7,A8])]⟩)],[]⟩
def Kq:Sig:=.of [Jf] [Sq2,CY] (fun a=>LD N a)
theorem Pv:CX 313 (Kq N):=Dc (CZ [(224,Gx N),(232,MV N)] Q9) Ro Tryz.f313 N (ctx_ok ⟨F6 N,MW N,trivial⟩)
def ZY:List (Nat×Nrm):=[(3,⟨[1,4],[],[],[],[]⟩),(30,⟨[1,4,5],[],[],[],[]⟩)]
def eX:Lk:=⟨[],[(30,⟨[(1,.c AV),(4,.c x64),(5,.c x64)],[(33024,.box BF)]⟩,[(0,⟨[(1,.c AV),(4,.c x64)],[(33024,.box BF)]⟩)])]⟩
def Uh:Sig:=.of [zW] [CY,CY] (fun a=>WW N a)
theorem Yd:CX 315 (Uh N):=Dc (CZ [(290,Pn N),(289,Pm N)] ZY [] [] [] [9,13,14,18,19,23,24,28,29,38,42,46,47,51,52,56,57,61,62,66]) eX Tryz.f315 N (ctx_ok ⟨Q4 N,Q3 N,trivial⟩)
def Zd:List (Nat×Nrm):=[(89,⟨[2,4,5,6],[],[],[],[]⟩)]
def aQ:Lk:=⟨[(89,⟨[(2,.c AB),(4,.c AP),(5,.c AQ),(6,.c Bh)],[(33280,.box [A8,AA,A8]),(33792,.box [A8,AA,A8]),(34048,.box [xs,xb,A8])]⟩)],[]⟩
def RS:Sig:=.of [Jf] [uF,CY] (fun a=>Gh N a)
theorem Xf:CX 286 (RS N):=Dc (CZ [(224,Gx N),(232,MV N),(391,Og N)] Zd) aQ Tryz.f286 N (ctx_ok ⟨F6 N,MW N,PR N,trivial⟩)
def FZ:Sig:=.of [.box [(false,.bool)],.box [(false,.str)],.box [(false,.str)]] [Df] (fun a=>Fe N a.1 a.2.1 a.2.2)
theorem YX:CX 100 (FZ N):=Dc (CZ [(102,Jj N),(105,UD N),(104,Es N),(103,DJ N),(101,EU N)] []) ⟨[],[]⟩ Tryz.f100 N (ctx_ok ⟨KN N,Ym N,Ef N,D9 N,EI N,trivial⟩)
def JS (N:Nat):Alt:=.of [.cell false .str,.cell false (.int .i64)] [Ku,.cell false (.int .i64)] [.cell false .ptr,.cell false (.int .i64)] (fun a=>Ic N a.1 a.2)
theorem MH:Spec Tryz.prog 57 (JS N).1/\Spec Tryz.prog 57 (JS N).2.1:=alt_of_exe (C:=ctx Tryz.prog [(98,Fv N)] [] [(134,G7 N)]) (L:=⟨[],[]⟩) (fn:=Tryz.f57) (N:=N) (ctx_ok ⟨Il N,trivial⟩ ⟨IA N,trivial⟩) (by kernel_rfl) (by kernel_rfl) (fun a=>by kernel_rfl)
def Me:Sig:=.of [Ku] [CY] (fun a=>Gf N a)
theorem O9:CX 60 (Me N):=Dc (CZ [(135,IB N),(142,JD N)] []) ⟨[],[]⟩ Tryz.f60 N (ctx_ok ⟨Jg N,OD N,trivial⟩)
def Rq:List (Nat×Nrm):=[(3,⟨[6],[([6],149,Tq0,1004096)],[],[(1000000,1004096)],[]⟩),(42,⟨[6,26,27,28],[([6],149,Tq0,1000000)],[],[(43776,1000000)],[]⟩)]
def Ti:Lk:=⟨[],[(42,⟨[(6,.c (xo 1000000)),(26,.i),(27,.i),(28,.c x64)],[(1000000,.arr 149 false Tq0)]⟩,[(0,⟨[(6,.c (xo 1004096))],[(1004096,.arr 149 false Tq0)]⟩)])]⟩
def KI:Sig:=.of [Jf] [.cell false (.sl 149 Tq0),CY] (fun a=>DN N a)
theorem Qb:CX 226 (KI N):=Dc (CZ [(224,Gx N),(312,SK N),(313,Kq N)] Rq) Ti Tryz.f226 N (ctx_ok ⟨F6 N,XJ N,Pv N,trivial⟩)
def eQ:List (Nat×Nrm):=[(33,⟨[1,6],[],[],[],[]⟩),(69,⟨[1,6,7],[],[],[],[]⟩)]
def kE:Lk:=⟨[(33,⟨[(1,.i),(6,.c x64)],[]⟩),(69,⟨[(1,.i),(6,.i),(7,.c x64)],[]⟩)],[]⟩
def Pg:Sig:=.of [CY,Df] [CY,CY] (fun a=>Jc N a.1 a.2)
theorem Qy:CX 227 (Pg N):=Dc (CZ [(314,Pq N),(316,WZ N),(315,Uh N)] eQ) kE Tryz.f227 N (ctx_ok ⟨Q5 N,aB N,Yd N,trivial⟩)
def GR (N:Nat):Alt:=.of [Ku] [Ku,.cell false (.int .i64)] [.cell false .ptr,.cell false (.int .i64)] (fun a=>Fq N a)
theorem L9:Spec Tryz.prog 229 (GR N).1/\Spec Tryz.prog 229 (GR N).2.1:=alt_of_exe (C:=ctx Tryz.prog [(58,ED N)] [] [(134,G7 N)]) (L:=⟨[],[]⟩) (fn:=Tryz.f229) (N:=N) (ctx_ok ⟨E5 N,trivial⟩ ⟨IA N,trivial⟩) (by kernel_rfl) (by kernel_rfl) (fun a=>by kernel_rfl)
def Pe:Sig:=.of [Df,CY] [CY,CY] (fun a=>EM N a.1 a.2)
theorem Qw:CX 319 (Pe N):=Dc (CZ [(98,Fv N),(225,Oh N)] []) ⟨[],[]⟩ Tryz.f319 N (ctx_ok ⟨Il N,PS N,trivial⟩)
def NY:Sig:=.of [Sq0] [Sq3] (fun a=>Ir N a)
theorem PO:CX 48 (NY N):=Dc (CZ [(39,EY N),(72,Y7 N)] []) ⟨[],[]⟩ Tryz.f48 N (ctx_ok ⟨EJ N,gQ N,trivial⟩)
def pF:List (Nat×Nrm):=[(3,⟨[],[],[],[],[]⟩),(10,⟨[3,7,8,9],[],[],[],[]⟩)]
def rG:Lk:=⟨[],[(10,⟨[(3,.c AL),(7,.i),(8,.i),(9,.c x64)],[(33536,.box [xs,x64,xs])]⟩,[(0,⟨[],[]⟩)])]⟩
def YK:Sig:=.of [.cell false (.sl 149 Tq0),Sq2] [Du] (fun a=>SG N a.1 a.2)
theorem iQ:CX 326 (YK N):=Dc (CZ [(425,PT N)] pF) rG Tryz.f326 N (ctx_ok ⟨V5 N,trivial⟩)
def qQ:List (Nat×Nrm):=[(3,⟨[3],[],[],[],[]⟩),(14,⟨[3,7,8,9],[],[],[],[]⟩)]
def vI:Lk:=⟨[],[(14,⟨[(3,.c AU),(7,.i),(8,.i),(9,.c x64)],[(34304,.box Bo)]⟩,[(0,⟨[(3,.c AU)],[(34304,.box Bo)]⟩)])]⟩
def aY:Sig:=.of [WE] [Df] (fun a=>Vj N a)
theorem kQ:CX 301 (aY N):=Dc (CZ [(402,Xj N),(403,ND N),(404,PM N)] qQ) vI Tryz.f301 N (ctx_ok ⟨aX N,Tq N,Vg N,trivial⟩)
def rP:List (Nat×Nrm):=[(3,⟨[],[],[],[],[]⟩),(10,⟨[0,1,5],[],[],[],[]⟩)]
def wO:Lk:=⟨[],[(10,⟨[(0,.i),(1,.i),(5,.c x64)],[]⟩,[(0,⟨[],[]⟩)])]⟩
def dN:Sig:=.of [Df,.cell false .fn] [Du] (fun a=>ZH N a.1 a.2)
theorem lS:CX 415 (dN N):=Dc (CZ [] rP [] [(12,jI N)]) wO Tryz.f415 N (ctx_ok trivial trivial ⟨uZ N,trivial⟩)
def Tu:Sig:=.of [Df] [Du] (fun a=>OC N a)
theorem Uo:CX 296 (Tu N):=Dc (CZ [(398,VX N),(399,Xq N),(400,ML N)] [] [] [] [] [13,17,18,21,22,25]) ⟨[],[]⟩ Tryz.f296 N (ctx_ok ⟨ZF N,bG N,KZ N,trivial⟩)
def Y2:Sig:=.of [Df] [Du] (fun a=>Xm N a)
theorem gG:CX 421 (Y2 N):=Dc (CZ [(400,ML N)] []) ⟨[],[]⟩ Tryz.f421 N (ctx_ok ⟨KZ N,trivial⟩)
def Ur:Sig:=.of [Df] [Du] (fun a=>QE N a)
theorem Yj:CX 422 (Ur N):=Dc (CZ [(468,NG N),(400,ML N),(455,JJ N)] []) ⟨[],[]⟩ Tryz.f422 N (ctx_ok ⟨TN N,KZ N,LP N,trivial⟩)
def kL:List (Nat×Nrm):=[(3,⟨[],[],[],[],[]⟩),(18,⟨[0,1,12,13],[],[],[],[]⟩)]
def nM:Lk:=⟨[],[(18,⟨[(0,.i),(1,.i),(12,.i),(13,.c x64)],[]⟩,[(0,⟨[],[]⟩)])]⟩
def Xc:Sig:=.of [.cell false (.sl 149 Tq0),.cell false (.sl 149 Tq0)] [Du] (fun a=>aN N a.1 a.2)
theorem aO:CX 397 (Xc N):=Dc (CZ [(453,Yx N)] kL) nM Tryz.f397 N (ctx_ok ⟨fJ N,trivial⟩)
def gV:List (Nat×Nrm):=[(3,⟨[3],[([3],188,Tq2,1008192)],[],[(1000000,1008192)],[]⟩),(14,⟨[0,3,4],[([3],188,Tq2,1000000)],[],[(41216,1000000)],[]⟩),(33,⟨[0,3,4,5],[([3],188,Tq2,1004096)],[(some 34048,3,Aq)],[(1000000,1004096)],[]⟩)]
def kW:Lk:=⟨[(33,⟨[(0,.c AO),(3,.c (xo 1004096)),(4,.i),(5,.c AQ)],[(0,.box Bz),(34048,.box [(xo 36608),x64,xb,Bc]),(36608,.arr 102 false Tq1),(1004096,.arr 188 false Tq2)]⟩)],[(14,⟨[(0,.c AO),(3,.c (xo 1000000)),(4,.c x64)],[(0,.box Bz),(1000000,.arr 188 false Tq2)]⟩,[(0,⟨[(3,.c (xo 1008192))],[(0,.box Bz),(1008192,.arr 188 false Tq2)]⟩)])]⟩
def VN:Sig:=.of [Sq0] [.cell false (.sl 188 Tq2)] (fun a=>Ov N a)
theorem Zp:CX 49 (VN N):=Dc (CZ [(39,EY N),(48,NY N),(46,II N)] gV) kW Tryz.f49 N (ctx_ok ⟨EJ N,PO N,Jk N,trivial⟩)
def Yp:List (Nat×Nrm):=[(3,⟨[],[],[],[],[]⟩),(18,⟨[0,1,12,13],[],[],[],[]⟩)]
def ZC:Lk:=⟨[],[(18,⟨[(0,.i),(1,.i),(12,.i),(13,.c x64)],[]⟩,[(0,⟨[],[]⟩)])]⟩
def QU:Sig:=.of [.cell false (.sl 149 Tq0),.cell false (.sl 149 Tq0)] [Du] (fun a=>UI N a.1 a.2)
theorem Wy:CX 238 (QU N):=Dc (CZ [(326,YK N)] Yp) ZC Tryz.f238 N (ctx_ok ⟨iQ N,trivial⟩)
def GI:Sig:=.of [WE] [Df] (fun a=>Eh N a)
theorem FW:CX 216 (GI N):=Dc (CZ [(301,aY N)] []) ⟨[],[]⟩ Tryz.f216 N (ctx_ok ⟨kQ N,trivial⟩)
def XH:Sig:=.of [CY,Df] [Du] (fun a=>VE N a.1 a.2)
theorem dM:CX 324 (XH N):=Dc (CZ [(414,dO N),(415,dN N)] []) ⟨[],[]⟩ Tryz.f324 N (ctx_ok ⟨lT N,lS N,trivial⟩)
def RY:Sig:=.of [Df] [Du] (fun a=>Pz N a)
theorem Xn:CX 420 (RY N):=Dc (CZ [(296,Tu N),(467,N8 N),(400,ML N)] []) ⟨[],[]⟩ Tryz.f420 N (ctx_ok ⟨Uo N,Rx N,KZ N,trivial⟩)
def aK:List (Nat×Nrm):=[(3,⟨[],[],[],[],[]⟩),(18,⟨[2,3,15,16],[],[],[],[]⟩)]
def fH:Lk:=⟨[],[(18,⟨[(2,.c AB),(3,.c AL),(15,.i),(16,.c x64)],[(33280,.box [Bc]),(33536,.box [Bc])]⟩,[(0,⟨[],[]⟩)])]⟩
def Ui:Sig:=.of [Sq1,Sq1] [Du] (fun a=>Q7 N a.1 a.2)
theorem Yf:CX 294 (Ui N):=Dc (CZ [(397,Xc N)] aK) fH Tryz.f294 N (ctx_ok ⟨aO N,trivial⟩)
def eU:List (Nat×Nrm):=[(3,⟨[6,7],[],[],[],[]⟩),(37,⟨[4,6,7],[],[],[(38144,1000000),(39680,1000000)],[]⟩),(42,⟨[6,7,38,39,40],[],[],[(44544,1000000)],[]⟩)]
def kG:Lk:=⟨[(37,⟨[(4,.c AP),(6,.c x64),(7,.c (xo 1000000))],[(33792,.box BF),(1000000,.arr 5 false Ar)]⟩)],[(42,⟨[(6,.i),(7,.c (xo 1000000)),(38,.c (xo 42496)),(39,.i),(40,.c x64)],[(42496,.arr 3 false Az),(1000000,.arr 5 false Ar)]⟩,[(0,⟨[(6,.i),(7,.c (xo 1000000))],[(1000000,.arr 5 false Ar)]⟩)])]⟩
def Ph:Sig:=.of [CY] [Df,CY] (fun a=>Eo N a)
theorem Qz:CX 114 (Ph N):=Dc (CZ [(206,WV N),(207,aC N),(192,Gy N)] eU) kG Tryz.f114 N (ctx_ok ⟨ZX N,kJ N,F7 N,trivial⟩)
def nP:List (Nat×Nrm):=[(3,⟨[],[],[],[],[]⟩),(30,⟨[3,15,16,17],[],[],[],[]⟩)]
def qN:Lk:=⟨[],[(30,⟨[(3,.c (xo 36352)),(15,.i),(16,.i),(17,.c x64)],[(36352,.mp Aw Az)]⟩,[(0,⟨[],[]⟩)])]⟩
def Tj:Sig:=.of [.cell false (.sl 238 Tq4)] [CY] (fun a=>LG N a)
theorem Uk:CX 218 (Tj N):=Dc (CZ [(302,Yy N),(303,TC N),(304,YO N)] nP) qN Tryz.f218 N (ctx_ok ⟨fP N,Uz N,jA N,trivial⟩)
def Wx:List (Nat×Nrm):=[(3,⟨[],[],[],[],[]⟩),(18,⟨[2,3,15,16],[],[],[],[]⟩)]
def XC:Lk:=⟨[],[(18,⟨[(2,.c AB),(3,.c AL),(15,.i),(16,.c x64)],[(33280,.box [Bc]),(33536,.box [Bc])]⟩,[(0,⟨[],[]⟩)])]⟩
def OW:Sig:=.of [Sq1,Sq1] [Du] (fun a=>Lm N a.1 a.2)
theorem UH:CX 151 (OW N):=Dc (CZ [(238,QU N)] Wx) XC Tryz.f151 N (ctx_ok ⟨Wy N,trivial⟩)
def Ky (N:Nat):Alt:=.of [.cell false .str,.cell false (.int .i64)] [dU,.cell false (.int .i64)] [.cell false .ptr,.cell false (.int .i64)] (fun a=>FX N a.1 a.2)
theorem Ws:Spec Tryz.prog 125 (Ky N).1/\Spec Tryz.prog 125 (Ky N).2.1:=alt_of_exe (C:=ctx Tryz.prog [(216,GI N)] [] [] [] [23]) (L:=⟨[],[]⟩) (fn:=Tryz.f125) (N:=N) (ctx_ok ⟨FW N,trivial⟩) (by kernel_rfl) (by kernel_rfl) (fun a=>by kernel_rfl)
def Tf:List (Nat×Nrm):=[(3,⟨[],[],[],[],[]⟩),(11,⟨[0,13,14,15],[],[],[],[]⟩),(26,⟨[0,13,14,15],[],[],[],[]⟩),(62,⟨[0,4,13,14,15,41,42,43],[],[],[],[]⟩)]
def Uj:Lk:=⟨[],[(26,⟨[(0,.i),(13,.i),(14,.i),(15,.c x64)],[]⟩,[(0,⟨[],[]⟩)]),(62,⟨[(0,.i),(4,.c AP),(13,.i),(14,.i),(15,.i),(41,.i),(42,.i),(43,.c x64)],[(33792,.box [xs,x64,xs])]⟩,[(2,⟨[(0,.i),(13,.i),(14,.i),(15,.i)],[]⟩)])]⟩
def LC:Sig:=.of [.cell false (.sl 149 Tq0)] [CY] (fun a=>GU N a)
theorem Q8:CX 233 (LC N):=Dc (CZ [(303,TC N),(324,XH N)] Tf) Uj Tryz.f233 N (ctx_ok ⟨Uz N,dM N,trivial⟩)
def OB:Sig:=.of [CY,Df,Du] [Du] (fun a=>Lh N a.1 a.2.1 a.2.2)
theorem Um:CX 325 (OB N):=Dc (CZ [(420,RY N),(296,Tu N),(421,Y2 N),(422,Ur N),(423,Xo N),(424,Un N)] [] [] [] [] [11,14,15,18,21,22,26,29,30,33,36,37,41,44,45,48,51,52]) ⟨[],[]⟩ Tryz.f325 N (ctx_ok ⟨Xn N,Uo N,gG N,Yj N,aZ N,Yi N,trivial⟩)
def KX:Sig:=.of [Sq1,Sq1] [Du] (fun a=>Gz N a.1 a.2)
theorem Le:CX 210 (KX N):=Dc (CZ [(294,Ui N)] []) ⟨[],[]⟩ Tryz.f210 N (ctx_ok ⟨Yf N,trivial⟩)
def kN:List (Nat×Nrm):=[(3,⟨[5],[([5],9,Aw,1004096)],[],[(1000000,1004096)],[]⟩),(26,⟨[5,17,18,19],[([5],9,Aw,1000000)],[],[(41216,1000000)],[]⟩)]
def nS:Lk:=⟨[],[(26,⟨[(5,.c (xo 1000000)),(17,.i),(18,.i),(19,.c x64)],[(1000000,.arr 9 false Aw)]⟩,[(0,⟨[(5,.c (xo 1004096))],[(1004096,.arr 9 false Aw)]⟩)])]⟩
def QB:Sig:=.of [.cell false (.sl 238 Tq4)] [Df,CY] (fun a=>Hu N a)
theorem RQ:CX 129 (QB N):=Dc (CZ [(218,Tj N),(219,RU N),(192,Gy N)] kN) nS Tryz.f129 N (ctx_ok ⟨Uk N,Xg N,F7 N,trivial⟩)
def MS:Sig:=.of [Df,CY,CY,Df,Df] [Df] (fun a=>Fz N a.1 a.2.1 a.2.2.1 a.2.2.2.1 a.2.2.2.2)
theorem OL:CX 156 (MS N):=Dc (CZ [(243,Y9 N),(223,Ox N),(216,GI N)] []) ⟨[],[]⟩ Tryz.f156 N (ctx_ok ⟨gX N,Oa N,FW N,trivial⟩)
def rD:List (Nat×Nrm):=[(3,⟨[5],[],[],[],[]⟩),(10,⟨[0,1,2,4,5,13],[],[],[],[]⟩)]
def wG:Lk:=⟨[],[(10,⟨[(0,.i),(1,.i),(2,.i),(4,.i),(5,.c xs),(13,.c x64)],[]⟩,[(0,⟨[(5,.c xs)],[]⟩)])]⟩
def Qe:Sig:=.of [Df,CY,CY,CY,CY,Df] [Df] (fun a=>Ob N a.1 a.2.1 a.2.2.1 a.2.2.2.1 a.2.2.2.2.1 a.2.2.2.2.2)
theorem P6:CX 241 (Qe N):=Dc (CZ [(327,Vx N),(328,Zz N),(216,GI N)] rD) wG Tryz.f241 N (ctx_ok ⟨TE N,YF N,FW N,trivial⟩)
def QL:Sig:=.of [Df,CY,WE] [Df] (fun a=>Nc N a.1 a.2.1 a.2.2)
theorem Sr:CX 242 (QL N):=Dc (CZ [(327,Vx N),(311,Vy N),(216,GI N)] []) ⟨[],[]⟩ Tryz.f242 N (ctx_ok ⟨TE N,VS N,FW N,trivial⟩)
def QM:Sig:=.of [Df,CY,CY] [Df] (fun a=>Nh N a.1 a.2.1 a.2.2)
theorem Su:CX 310 (QM N):=Dc (CZ [(327,Vx N),(328,Zz N),(216,GI N)] []) ⟨[],[]⟩ Tryz.f310 N (ctx_ok ⟨TE N,YF N,FW N,trivial⟩)
def MR:Sig:=.of [Jf,CY,Df] [Df] (fun a=>ES N a.1 a.2.1 a.2.2)
theorem OJ:CX 155 (MR N):=Dc (CZ [(223,Ox N),(216,GI N)] []) ⟨[],[]⟩ Tryz.f155 N (ctx_ok ⟨Oa N,FW N,trivial⟩)
def UY:Sig:=.of [Ku] [CY,CY] (fun a=>J8 N a)
theorem VJ:CX 138 (UY N):=Dc (CZ [(135,IB N),(227,Pg N)] []) ⟨[],[]⟩ Tryz.f138 N (ctx_ok ⟨Jg N,Qy N,trivial⟩)
def kM:List (Nat×Nrm):=[(3,⟨[7],[([7],238,Tq4,1004096)],[],[(1000000,1004096)],[]⟩),(46,⟨[7,33,34,35],[([7],238,Tq4,1000000)],[],[(45568,1000000)],[]⟩)]
def nR:Lk:=⟨[],[(46,⟨[(7,.c (xo 1000000)),(33,.i),(34,.i),(35,.c x64)],[(1000000,.arr 238 false Tq4)]⟩,[(0,⟨[(7,.c (xo 1004096))],[(1004096,.arr 238 false Tq4)]⟩)])]⟩
def QA:Sig:=.of [Df] [.cell false (.sl 238 Tq4),CY] (fun a=>MJ N a)
theorem RP:CX 200 (QA N):=Dc (CZ [(189,LQ N),(224,Gx N),(286,RS N),(218,Tj N)] kM) nR Tryz.f200 N (ctx_ok ⟨JK N,F6 N,Xf N,Uk N,trivial⟩)
def VH:Sig:=.of [Df] [CY,CY] (fun a=>KH N a)
theorem Za:CX 407 (VH N):=Dc (CZ [(189,LQ N),(227,Pg N)] []) ⟨[],[]⟩ Tryz.f407 N (ctx_ok ⟨JK N,Qy N,trivial⟩)
def OA:Sig:=.of [Df] [Df,CY] (fun a=>I8 N a)
theorem TZ:CX 318 (OA N):=Dc (CZ [(58,ED N),(62,EC N)] [] [(57,JS N)]) ⟨[],[]⟩ Tryz.f318 N (ctx_ok ⟨E5 N,Ez N,trivial⟩ ⟨MH N,trivial⟩)
end
