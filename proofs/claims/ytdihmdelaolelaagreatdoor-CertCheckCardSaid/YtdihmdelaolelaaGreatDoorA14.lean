import Derived.Test.YtdihmdelaolelaaGreatDoorA12
set_option linter.all false
namespace Go.Proofs.YtdihmdelaolelaaGreatDoor.Vm
noncomputable section
variable (N:Nat)
open Go.Proofs Go.Proofs.Tryz
def Aih:A07:=[(3,⟨[3],[([3],9,Aq,AzN)],[],[(AzK,AzN)],[]⟩),(11,⟨[3,5,6,10,11,12],[([3],9,Aq,AzM)],[],[(AzL,AzM)],[AzM]⟩),(14,⟨[3,10,11,12],[([3],9,Aq,AzK)],[],[(43008,AzK)],[]⟩),A05 19 [7],(26,⟨[3,5,6,10,11,12],[([3],9,Aq,AzL)],[],[(AzK,AzL)],[]⟩),A05 50 [7,42,43,44]]
def Akw:Lk:=⟨[],[(14,⟨[(3,.c (xo AzK)),(10,.i),(11,.i),(12,.c x64)],[(AzK,.arr 9 false Aq)]⟩,[(0,⟨[(3,.c (xo AzN))],[(AzN,.arr 9 false Aq)]⟩)]),(26,⟨[(3,.c (xo AzL)),(5,.i),(6,.c x64),(10,.i),(11,.i),(12,.i)],[(AzL,.arr 9 false Aq)]⟩,[(2,⟨[(3,.c (xo AzM)),(5,.i),(6,.c x64),(10,.i),(11,.i),(12,.i)],[(AzM,.arr 9 true Aq)]⟩)]),(50,⟨[(7,.c xs),(42,.c (xo AzN)),(43,.i),(44,.c x64)],[(AzN,.arr 9 false Aq)]⟩,[(4,⟨[(7,.c xs)],[]⟩)])]⟩
def Akx:=JJ 88 [Sq1] [Jy] (aP N) [] Aih Akw f88 N
def Aii:=J8 165 [Jw] [Jw] (VR N) [] f165 N
def An1:=JJ 166 [Jw,Jw] [Jw] (A00 (YV N)) [] [] A08 f166 N (bb:=[7,11,12,16,20,21])
def Ase:=J8 167 [Jw] [Jy] (AeQ N) [] f167 N
def zH:A07:=[A05 3 [4],(11,⟨[4],[],[(none,4,Ar)],[],[]⟩),(18,⟨[3,4,5],[([4],5,Ar,AzK)],[],[(37632,AzK)],[]⟩),(30,⟨[4],[],[(none,4,Ar)],[],[]⟩)]
def Ab0:Lk:=⟨[],[(18,⟨[(3,.i),(4,.c (xo AzK)),(5,.c x64)],[(AzK,.arr 5 false Ar)]⟩,[(0,⟨[(4,.c (xo AzK))],[(AzK,.arr 5 false Ar)]⟩)]),(30,⟨[(4,.c Bh)],[]⟩,[(2,⟨[(4,.c Bh)],[]⟩)])]⟩
def Ab1:=JJ 96 [Jw] [Jy] (P9 N) [] zH Ab0 f96 N (bb:=[23,28,33,34,39,44,45,46])
def dI:=J8 261 [JM] [Jy] (Uy N) [] f261 N
def Ada:A07:=[A05 3 [0,4],A05 11 [6],A05 22 [0,4,5],A05 50 [0,4,6,7]]
def AeI:Lk:=⟨[],[(22,⟨[(0,.i),(4,.c x64),(5,.c x64)],[]⟩,[(0,⟨[(0,.i),(4,.c x64)],[]⟩)]),(50,⟨[(0,.i),(4,.i),(6,.c (xo AzY)),(7,.c x64)],[(AzY,.arr 5 false Ar)]⟩,[(2,⟨[(6,.c (xo AzY))],[(AzY,.arr 5 false Ar)]⟩)])]⟩
def AeJ:=JJ 262 [Jw] [Jy,Jw] (WC N) [] Ada AeI f262 N
def AnT:A07:=[(3,⟨[3],[([3],5,Ar,AzN)],[],[(AzK,AzN)],[]⟩),(18,⟨[3,4,8,9,10],[([3],5,Ar,AzK)],[],[(41472,AzK)],[]⟩),(45,⟨[3,4,6,8,9,10],[([3],5,Ar,AzL)],[],[(38400,AzL),(AzK,AzL)],[]⟩),(53,⟨[3,4,6,8,9,10],[([3],5,Ar,AzM)],[],[(AzL,AzM)],[]⟩)]
def Apx:Lk:=⟨[(45,⟨[(3,.c (xo AzL)),(4,.c xb),(6,.i),(8,.c (xo AzW)),(9,.i),(10,.i)],[(AzW,.arr 5 false Ar),(AzL,.arr 5 false Ar)]⟩),(53,⟨[(3,.c (xo AzM)),(4,.i),(6,.c x8),(8,.c (xo AzW)),(9,.i),(10,.i)],[(AzW,.arr 5 false Ar),(AzM,.arr 5 false Ar)]⟩)],[(18,⟨[(3,.c (xo AzK)),(4,.c xb),(8,.c (xo AzW)),(9,.i),(10,.c x64)],[(AzW,.arr 5 false Ar),(AzK,.arr 5 false Ar)]⟩,[(0,⟨[(3,.c (xo AzN))],[(AzN,.arr 5 false Ar)]⟩)])]⟩
def Apy:=JJ 384 [Jy] [Jy] (dO N) [] AnT Apx f384 N
open Go.Proofs Go.Proofs.Tryz
def Aif:A07:=[A05 3 [3],A05 14 [3,8,9]]
def Aku:Lk:=⟨[],[(14,⟨[(3,.c (xo AzV)),(8,.i),(9,.c x64)],[(AzV,.arr 5 false Ar)]⟩,[(0,⟨[(3,.c (xo AzV))],[(AzV,.arr 5 false Ar)]⟩)])]⟩
def Akv:=JJ 405 [Jy] [Jy] (aO N) [] Aif Aku f405 N
open Go.Proofs Go.Proofs.Tryz
def LC:=J8 40 [Jw,Sq1] [Jy] (A00 (JK N)) [kS N] f40 N
def Aby:A07:=[(3,⟨[6],[([6],5,Ar,A0d)],[],[(AzK,A0d)],[]⟩),(11,⟨[6,9,30,31,32],[([6],5,Ar,AzM)],[],[(AzT,AzM)],[]⟩),(19,⟨[6,9,30,31,32],[([6],5,Ar,AzS)],[],[(AzN,AzS)],[]⟩),(30,⟨[6,30,31,32],[([6],5,Ar,AzK)],[],[(48384,AzK)],[]⟩),(42,⟨[6,8,9,30,31,32],[([9],5,Ar,AzL),([6],5,Ar,AzT)],[],[(A0g,AzL),(AzK,AzT)],[]⟩),(58,⟨[6,9,10,30,31,32],[([6],5,Ar,AzN)],[],[(AzM,AzN)],[]⟩)]
def AcX:Lk:=⟨[],[(30,⟨[(6,.c (xo AzK)),(30,.c (xo AzY)),(31,.i),(32,.c x64)],[(AzY,.arr 3 false Au),(AzK,.arr 5 false Ar)]⟩,[(0,⟨[(6,.c (xo A0d))],[(A0d,.arr 5 false Ar)]⟩)]),(42,⟨[(6,.c (xo AzT)),(8,.c x64),(9,.c (xo AzL)),(30,.c (xo AzY)),(31,.i),(32,.i)],[(AzY,.arr 3 false Au),(AzL,.arr 5 false Ar),(AzT,.arr 5 false Ar)]⟩,[(2,⟨[(6,.c (xo AzM)),(9,.c (xo A0g)),(30,.c (xo AzY)),(31,.i),(32,.i)],[(AzY,.arr 3 false Au),(A0g,.arr 5 false Ar),(AzM,.arr 5 false Ar)]⟩)]),(58,⟨[(6,.c (xo AzN)),(9,.c (xo A0g)),(10,.c x64),(30,.c (xo AzY)),(31,.i),(32,.i)],[(AzY,.arr 3 false Au),(A0g,.arr 5 false Ar),(AzN,.arr 5 false Ar)]⟩,[(4,⟨[(6,.c (xo AzS)),(9,.c (xo A0g)),(30,.c (xo AzY)),(31,.i),(32,.i)],[(AzY,.arr 3 false Au),(A0g,.arr 5 false Ar),(AzS,.arr 5 false Ar)]⟩)])]⟩
def AcY:=JJ 174 [Jy] [Jy,Jw] (V3 N) [Ab5 N] Aby AcX f174 N
def Aie:A07:=[A05 3 [0,2,4,5],A05 11 [0,2,4,5,6],A05 22 [0,2,4,5],A05 38 [0,2,4,5,6]]
def Akr:Lk:=⟨[],[(22,⟨[(0,.i),(2,.c AL),(4,.i),(5,.c x64)],[(AzO,.box Bz)]⟩,[(0,⟨[(0,.i),(2,.c AL),(4,.i),(5,.c x64)],[(AzO,.box Bz)]⟩)]),(38,⟨[(0,.i),(2,.c AL),(4,.c x64),(5,.i),(6,.c x64)],[(AzO,.box Bz)]⟩,[(2,⟨[(0,.i),(2,.c AL),(4,.c x64),(5,.i),(6,.c x64)],[(AzO,.box Bz)]⟩)])]⟩
def Aks:=JJ 90 [Jw] [Aqr,Jw] (aN N) [Aii N,An1 N] Aie Akr f90 N
def An2:A07:=[A05 3 [5],A05 10 [1,5]]
def Aph:Lk:=⟨[],[(10,⟨[(1,.i),(5,.c xs)],[]⟩,[(0,⟨[(5,.c xs)],[]⟩)])]⟩
def Api:=JJ 91 [Jw,Jw] [Jy] (A00 (Oo N)) [⟨124,oU N,sD N⟩] An2 Aph f91 N
def Apm:=J8 93 [Sq7] [Jy] (AbN N) [Ase N] f93 N
def Vd:=J8 39 [Jw,Sq1] [Jy,Jw] (A00 (LV N)) [kS N] f39 N
def AnU:=J8 346 [Jy,Jy] [JM] (A00 (Zg N)) [Apy N] f346 N
def Akt:A07:=[(3,⟨[3],[([3],5,Ar,AzL)],[],[(AzK,AzL)],[]⟩),(18,⟨[0,3,4],[([3],5,Ar,AzK)],[],[(41984,AzK)],[]⟩)]
def Ant:Lk:=⟨[],[(18,⟨[(0,.i),(3,.c (xo AzK)),(4,.c x64)],[(AzK,.arr 5 false Ar)]⟩,[(0,⟨[(3,.c (xo AzL))],[(AzL,.arr 5 false Ar)]⟩)])]⟩
def Anu:=JJ 385 [Jy] [Jy] (YS N) [Akv N] Akt Ant f385 N
open Go.Proofs Go.Proofs.Tryz
def oZ:A07:=[A05 3 [],A05 11 [0,9,10,11],A05 18 [0,9,10,11],A05 38 [0,3,4,5,9,10,11]]
def sN:Lk:=⟨[],[(18,⟨[(0,.i),(9,.i),(10,.i),(11,.c x64)],[]⟩,[(0,⟨[],[]⟩)]),(38,⟨[(0,.i),(3,.i),(4,.c AU),(5,.c x64),(9,.i),(10,.i),(11,.i)],[(AzR,.box [xs,xs])]⟩,[(2,⟨[(0,.i),(9,.i),(10,.i),(11,.i)],[]⟩)])]⟩
def sO:=JJ 110 [Sq8] [Jw] (Rx N) [Rk N] oZ sN f110 N
def Aiq:A07:=[A05 3 [0,5],A05 11 [0,5],A05 18 [0,5],A05 38 [0,5,6]]
def AkC:Lk:=⟨[],[(18,⟨[(0,.i),(5,.c x64)],[]⟩,[(0,⟨[(0,.i),(5,.c x64)],[]⟩)]),(38,⟨[(0,.i),(5,.i),(6,.c x64)],[]⟩,[(2,⟨[(0,.i),(5,.i)],[]⟩)])]⟩
def AkD:=JJ 344 [Jy] [Jy,Jy,JM] (aT N) [aQ N,eX N,yF N] Aiq AkC f344 N (bb:=[24,27,28,33,34,41,42,46,47,53,64,70,71,76,82,83])
def An5:=J8 301 [Jy] [JM] (YX N) [aQ N] f301 N
def AgD:=JJ 302 [Jy] [JM] (UU N) [aQ N,yJ N] [] A08 f302 N (bb:=[5,9,13,14,18,19,23,24,29,30])
def yG:=J8 118 [Jy] [Jw] (Vb N) [Ape N,⟨226,yH N,AeK N⟩] f118 N
def aS:=J8 97 [Jy] [Jy] (PW N) [AcY N,LC N] f97 N
def Abz:=J8 36 [Jw] [Jy,Jw] (Oe N) [Aks N,Api N,kS N] f36 N
def sQ:=J8 41 [Jw,Jw] [Jy] (A00 (LD N)) [Ab1 N,LC N] f41 N
open Go.Proofs Go.Proofs.Tryz
def AgE:=J8 168 [Jw,JM] [Jy] (A00 (Xx N)) [dI N,LC N] f168 N
def yK:=J8 169 [Jw,Jw] [Jy] (A00 (QI N)) [AeJ N,LC N] f169 N
def Ama:A07:=[A05 3 [],A05 10 [3,7,8,9]]
def Aoz:Lk:=⟨[],[(10,⟨[(3,.c AQ),(7,.i),(8,.i),(9,.c x64)],[(AzP,.box [xs,x64,xs])]⟩,[(0,⟨[],[]⟩)])]⟩
def Ao0:=JJ 306 [.cell false (.sl 86 Tq0),Al0] [JM] (A00 (XU N)) [AnU N] Ama Aoz f306 N
def AcZ:=J8 347 [Jy,Jy] [JM] (A00 (SC N)) [Anu N] f347 N
open Go.Proofs Go.Proofs.Tryz
def jR:A07:=[A05 85 [2,4,5,7]]
def lK:Lk:=⟨[(85,⟨[(2,.c AL),(4,.c AU),(5,.i),(7,.i)],[(AzO,.box [AB,AA,AB]),(AzR,.box [AB,AA,AB])]⟩)],[]⟩
def lL:=JJ 353 [Sq7] [Al0,Jw] (XT N) [WO N,Abi N] jR lK f353 N
def Afy:A07:=[A05 3 [1,4],A05 30 [1,4,5]]
def Ahq:Lk:=⟨[],[(30,⟨[(1,.c AO),(4,.c x64),(5,.c x64)],[(AzQ,.box BF)]⟩,[(0,⟨[(1,.c AO),(4,.c x64)],[(AzQ,.box BF)]⟩)])]⟩
def Ahr:=JJ 355 [Aqr] [Jw,Jw] (Aa0 N) [y8 N,y7 N] Afy Ahq f355 N (bb:=[9,13,14,18,19,23,24,28,29,38,42,46,47,51,52,56,57,61,62,66])
def Ab6:A07:=[A05 3 [],A05 18 [11,12,13]]
def Ade:Lk:=⟨[],[(18,⟨[(11,.i),(12,.i),(13,.c x64)],[]⟩,[(0,⟨[],[]⟩)])]⟩
def TA:=JJ 47 [Sq0] [Jw] (MH N) [lT N] Ab6 Ade f47 N
def Ab9:=J8 300 [Jy] [JM] (WG N) [AkD N] f300 N
def zL:A07:=[(3,⟨[3],[([3],9,Aq,AzL)],[],[(AzK,AzL)],[]⟩),(14,⟨[3,6,7,8],[([3],9,Aq,AzK)],[],[(39168,AzK)],[]⟩)]
def AbC:Lk:=⟨[],[(14,⟨[(3,.c (xo AzK)),(6,.i),(7,.i),(8,.c x64)],[(AzK,.arr 9 false Aq)]⟩,[(0,⟨[(3,.c (xo AzL))],[(AzL,.arr 9 false Aq)]⟩)])]⟩
def AbD:=JJ 89 [.cell false (.sl 86 Tq0)] [Sq1] (U0 N) [aS N,LC N] zL AbC f89 N
def gB:=J8 42 [] [Jy] (fun _=>Ql N) [aS N,LC N] f42 N
def AbJ:A07:=[A05 3 [],A05 10 [0,8,9,10]]
def Adk:Lk:=⟨[],[(10,⟨[(0,.i),(8,.i),(9,.i),(10,.c x64)],[]⟩,[(0,⟨[],[]⟩)])]⟩
def Adl:=JJ 327 [.cell false (.sl 150 Tq3)] [Jw] (YY N) [Rk N,AbH N,yG N] AbJ Adk f327 N
def AjH:A07:=[A05 3 [],A05 18 [0,1,12,13]]
def Amb:Lk:=⟨[],[(18,⟨[(0,.i),(1,.i),(12,.i),(13,.c x64)],[]⟩,[(0,⟨[],[]⟩)])]⟩
def Amc:=JJ 227 [.cell false (.sl 86 Tq0),.cell false (.sl 86 Tq0)] [JM] (A00 (iC N)) [Ao0 N] AjH Amb f227 N
open Go.Proofs Go.Proofs.Tryz
def Afr:=J8 138 [WS] [Jw] (xZ N) [ND N,⟨134,Sj N,jP N⟩,rX N] f138 N
def lM:A07:=[(3,⟨[6],[([6],86,Tq0,AzL)],[],[(AzK,AzL)],[]⟩),(42,⟨[6,26,27,28],[([6],86,Tq0,AzK)],[],[(43776,AzK)],[]⟩)]
def o5:Lk:=⟨[],[(42,⟨[(6,.c (xo AzK)),(26,.i),(27,.i),(28,.c x64)],[(AzK,.arr 86 false Tq0)]⟩,[(0,⟨[(6,.c (xo AzL))],[(AzL,.arr 86 false Tq0)]⟩)])]⟩
def o6:=JJ 313 [Sq7] [.cell false (.sl 86 Tq0),Jw] (Y2 N) [WO N,AgO N,lL N] lM o5 f313 N
def Vh (N:Nat):Alt:=.of [WS] [WS,.cell false (.int .i64)] [.cell false .ptr,.cell false (.int .i64)] (fun a=>fJ N a)
def qV (N:Nat):Spec Tryz.prog 238 (Vh N).1/\Spec Tryz.prog 238 (Vh N).2.1:=Wi (C:=ctx Tryz.prog (ksp [ND N]) [] [(136,TK N)]) (L:=⟨[],[]⟩) (fn:=f238) (N:=N) (NC (Qh _) ⟨X5 N,trivial⟩) (by kernel_rfl) (by kernel_rfl) (fun a=>by kernel_rfl)
def Aho:A07:=[A05 33 [1,6],A05 69 [1,6,7]]
def AjA:Lk:=⟨[(33,⟨[(1,.i),(6,.c x64)],[]⟩),(69,⟨[(1,.i),(6,.i),(7,.c x64)],[]⟩)],[]⟩
def AjB:=JJ 314 [Jw,Jy] [Jw,Jw] (A00 (Adz N)) [yA N,AlP N,Ahr N] Aho AjA f314 N
def eP:=J8 315 [Aqs,Sq7] [Jw] (A00 (QX N)) [VN N] f315 N
def AeM:=JJ 299 [Jy] [JM] (TW N) [Ab9 N,aQ N] [] A08 f299 N (bb:=[5,8,9,13,17,18,22,23,27,28])
def zJ:A07:=[A05 3 [5],A05 26 [5,14,15,16]]
def Ab8:Lk:=⟨[],[(26,⟨[(5,.c xs),(14,.i),(15,.i),(16,.c x64)],[]⟩,[(0,⟨[(5,.c xs)],[]⟩)])]⟩
def dJ:=JJ 35 [Sq0] [Jy,Jw] (PE N) [TA N,AbD N,Akx N,LC N] zJ Ab8 f35 N
def Adj:=J8 37 [Sq7] [Jy,Jw] (V5 N) [kU N,gB N,Apm N,LC N] f37 N
end
end Go.Proofs.YtdihmdelaolelaaGreatDoor.Vm
