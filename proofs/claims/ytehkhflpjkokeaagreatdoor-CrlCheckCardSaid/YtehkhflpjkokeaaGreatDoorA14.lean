import Derived.Test.YtehkhflpjkokeaaGreatDoorA13
set_option linter.all false
namespace Go.Proofs.YtehkhflpjkokeaaGreatDoor.Vm
noncomputable section
variable (N:Nat)
open Go.Proofs Go.Proofs.Tryz
def lC (N:Nat):Alt:=.of [.cell false .str,.cell false (.int .i64),.cell false (.int .i64)] [Sq8,.cell false (.int .i64)] [.cell false .ptr,.cell false (.int .i64)] (fun a=>AaA N a.1 a.2.1 a.2.2)
def AiX (N:Nat):Spec Tryz.prog 56 (lC N).1/\Spec Tryz.prog 56 (lC N).2.1:=Vf (C:=ctx Tryz.prog (ksp [Tv N]) [] [(114,VF N)]) (L:=⟨[],[]⟩) (fn:=f56) (N:=N) (NQ (Q4 _) ⟨vP N,trivial⟩) (by kernel_rfl) (by kernel_rfl) (fun a=>by kernel_rfl)
def AfV:AyJ:=[AyH 3 [],AyH 18 [11,12,13]]
def Aib:Lk:=⟨[],[(18,⟨[(11,.i),(12,.i),(13,.c x64)],[]⟩,[(0,⟨[],[]⟩)])]⟩
def QB:=JF 47 [Sq0] [Jt] (N7 N) [mZ N] AfV Aib f47 N
def AjZ:AyJ:=[AyH 3 [],AyH 10 [2,4,9,10,11]]
def Am0:Lk:=⟨[],[(10,⟨[(2,.i),(4,.c AP),(9,.i),(10,.i),(11,.c x64)],[(AxT,.box [Bc])]⟩,[(0,⟨[],[]⟩)])]⟩
def AbQ:=JF 68 [.cell false (.sl 48 Tq3),Sq0,Jt] [Jt] (fun a=>Zb N a.1 a.2.1 a.2.2) [ZC N] AjZ Am0 f68 N
def Ai1:AyJ:=[AyH 3 [0,2,9],(26,⟨[0,1,2,9,10],[([9],9,Au,AxN)],[],[(40960,AxN)],[]⟩)]
def Alo:Lk:=⟨[],[(26,⟨[(0,.i),(1,.i),(2,.i),(9,.c (xo AxN)),(10,.c x64)],[(AxN,.arr 9 false Au)]⟩,[(0,⟨[(0,.i),(2,.i),(9,.c (xo AxN))],[(AxN,.arr 9 false Au)]⟩)])]⟩
def Alp:=JF 191 [Jw,Jw,Jt] [Jw,Jt] (fun a=>bD N a.1 a.2.1 a.2.2) [jL N,Aab N,rO N,Aaa N] Ai1 Alo f191 N
def Anf:AyJ:=[AyH 3 [13],(38,⟨[0,1,2,11,13,14],[([13],9,Au,AxN)],[],[(45056,AxN)],[]⟩)]
def ApM:Lk:=⟨[],[(38,⟨[(0,.i),(1,.i),(2,.i),(11,.i),(13,.c (xo AxN)),(14,.c x64)],[(AxN,.arr 9 false Au)]⟩,[(0,⟨[(13,.c (xo AxN))],[(AxN,.arr 9 false Au)]⟩)])]⟩
def ApN:=JF 169 [Jw,Jw,Jt,Jw] [Jw,Jt] (fun a=>rM N a.1 a.2.1 a.2.2.1 a.2.2.2) [jL N,zZ N,Aab N,rO N,AeN N] Anf ApM f169 N
def AoE:=JH 61 [Jw,Jw] [Jw,Jt] (fun a=>pV N a.1 a.2) [⟨119,AbO N,Af9 N⟩] f61 N
def Ag3:AyJ:=[AyH 3 [0,1,13],(46,⟨[0,1,3,11,13,14],[([13],9,Au,AxN)],[],[(46336,AxN)],[]⟩)]
def Ai2:Lk:=⟨[],[(46,⟨[(0,.i),(1,.i),(3,.i),(11,.i),(13,.c (xo AxN)),(14,.c x64)],[(AxN,.arr 9 false Au)]⟩,[(0,⟨[(0,.i),(1,.i),(13,.c (xo AxN))],[(AxN,.arr 9 false Au)]⟩)])]⟩
def Ai3:=JF 133 [Jw,Jt,Jw,Jw] [Jw,Jt] (fun a=>YG N a.1 a.2.1 a.2.2.1 a.2.2.2) [jK N,zZ N,rO N,Aaa N] Ag3 Ai2 f133 N
def VI:=JH 96 [Sq0,Sq0] [JM] (fun a=>LQ N a.1 a.2) [Aaw N] f96 N
open Go.Proofs Go.Proofs.Tryz
def gK (N:Nat):Alt:=.of [.cell false .str,.cell false (.int .i64)] [Sq8,.cell false (.int .i64)] [.cell false .ptr,.cell false (.int .i64)] (fun a=>XT N a.1 a.2)
def AgT (N:Nat):Spec Tryz.prog 15 (gK N).1/\Spec Tryz.prog 15 (gK N).2.1:=Vf (C:=ctx Tryz.prog (ksp []) [] [(56,lC N)]) (L:=⟨[],[]⟩) (fn:=f15) (N:=N) (NQ (Q4 _) ⟨AiX N,trivial⟩) (by kernel_rfl) (by kernel_rfl) (fun a=>by kernel_rfl)
def VZ:=JH 106 [Afz,JM] [Jt] (fun a=>PW N a.1 a.2) [Apd N,QB N,yP N] f106 N
def Acx:=JH 51 [Sq1,Jt] [Jt] (fun a=>Vk N a.1 a.2) [AdN N,Aka N,QB N,AfI N,ZC N,AbQ N] f51 N
def AdX:AyJ:=[(3,⟨[5],[([5],9,Au,AxR)],[],[(AxN,AxR)],[]⟩),(11,⟨[5,8,21,22,23],[([8],9,Au,AxP),([5],9,Au,Ayg)],[],[(AxO,AxP),(AxZ,Ayg)],[]⟩),(26,⟨[5,21,22,23],[([5],9,Au,AxN)],[],[(47872,AxN)],[]⟩),(42,⟨[5,8,21,22,23,27,28,29],[([8],9,Au,AxO),([5],9,Au,AxZ)],[],[(44032,AxO),(AxN,AxZ)],[]⟩)]
def AfX:Lk:=⟨[],[(26,⟨[(5,.c (xo AxN)),(21,.i),(22,.i),(23,.c x64)],[(AxN,.arr 9 false Au)]⟩,[(0,⟨[(5,.c (xo AxR))],[(AxR,.arr 9 false Au)]⟩)]),(42,⟨[(5,.c (xo AxZ)),(8,.c (xo AxO)),(21,.i),(22,.i),(23,.i),(27,.i),(28,.i),(29,.c x64)],[(AxO,.arr 9 false Au),(AxZ,.arr 9 false Au)]⟩,[(2,⟨[(5,.c (xo Ayg)),(8,.c (xo AxP)),(21,.i),(22,.i),(23,.i)],[(AxP,.arr 9 false Au),(Ayg,.arr 9 false Au)]⟩)])]⟩
def mX:=JF 33 [Sq0] [Jw,Jt] (UD N) [QB N,iI N,⟨83,lH N,AgZ N⟩,Rz N] AdX AfX f33 N
def vT:AyJ:=[(3,⟨[0,2],[([2],9,Au,AxO)],[],[(AxN,AxO)],[]⟩),(11,⟨[],[],[],[(44032,AxY),(AxP,AxY)],[]⟩),(14,⟨[0,2,3],[([2],9,Au,AxN)],[],[(Ayp,AxN)],[]⟩),(19,⟨[0,6,7],[([7],9,Au,AxW)],[],[(44032,1016400),(AxR,AxW),(Ayr,1016400)],[]⟩),(38,⟨[0,2,6],[],[],[(44032,AxP),(56576,AxP),(AxW,AxO)],[]⟩),(54,⟨[0,2,6,7,8],[([7],9,Au,AxR)],[],[(44032,Ayr),(54016,AxR),(AxP,Ayr)],[]⟩)]
def zU:Lk:=⟨[],[(14,⟨[(0,.c AL),(2,.c (xo AxN)),(3,.c x64)],[(0,.box Bz),(AxN,.arr 9 false Au)]⟩,[(0,⟨[(0,.c AL),(2,.c (xo AxO))],[(0,.box Bz),(AxO,.arr 9 false Au)]⟩)]),(38,⟨[(0,.c AL),(2,.c (xo AxO)),(6,.c x64)],[(0,.box [(xo AxP),xs,xs,x64]),(AxO,.arr 9 true Au),(AxP,.arr 73 false (.sl 9 Au .nil))]⟩,[(2,⟨[],[(0,.box [(xo AxY),xs,xs,x64]),(AxY,.arr 73 false (.sl 9 Au .nil))]⟩)]),(54,⟨[(0,.c AL),(2,.c (xo AxO)),(6,.i),(7,.c (xo AxR)),(8,.c x64)],[(0,.box [(xo Ayr),xs,xs,x64]),(AxO,.arr 9 true Au),(AxR,.arr 9 false Au),(Ayr,.arr 73 false (.sl 9 Au .nil))]⟩,[(4,⟨[(0,.c AL),(6,.i),(7,.c (xo AxW))],[(0,.box [(xo 1016400),xs,xs,x64]),(AxW,.arr 9 false Au),(1016400,.arr 73 false (.sl 9 Au .nil))]⟩)])]⟩
def zV:=JF 137 [Sq7] [] (NI N) [Alp N,jG N] vT zU f137 N
def AdW:AyJ:=[(3,⟨[2,4,8],[],[],[(34817,AxO),(AxN,AxO)],[]⟩),(50,⟨[2,4,8,37,38,39],[],[],[(34817,AxN),(47104,AxN)],[]⟩)]
def AfW:Lk:=⟨[],[(50,⟨[(2,.c AB),(4,.c AP),(8,.c AX),(37,.i),(38,.i),(39,.c x64)],[(AxQ,.box BC),(Aya,.JS 94 false Aq),(AxT,.box [(xo Ayh)]),(Ayh,.JS 94 false Aq),(Ayb,.box [(xo AxN)]),(AxN,.arr 94 false Aq)]⟩,[(0,⟨[(2,.c AB),(4,.c AP),(8,.c AX)],[(AxQ,.box BC),(Aya,.JS 94 false Aq),(AxT,.box [(xo Ayh)]),(Ayh,.JS 94 false Aq),(Ayb,.box [(xo AxO)]),(AxO,.arr 94 false Aq)]⟩)])]⟩
def mW:=JF 124 [Jw] [Sq0,Jt] (dP N) [Z5 N,Ry N,kK N,QB N] AdW AfW f124 N
def AoD:=JH 20 [Sq1,Sq0,Jt] [AjC,JM] (fun a=>dI N a.1 a.2.1 a.2.2) [AbQ N,mM N] f20 N
def AcV:AyJ:=[AyH 3 [3,10],AyH 58 [3,10,12,13,14],AyH 61 [3,10,12,13,14]]
def AeE:Lk:=⟨[(61,⟨[(3,.c AO),(10,.c xs),(12,.i),(13,.i),(14,.i)],[(AxS,.box [x64,xs,xs])]⟩)],[(58,⟨[(3,.c AO),(10,.c xs),(12,.i),(13,.c x64),(14,.c x64)],[(AxS,.box [x64,xs,xs])]⟩,[(0,⟨[(3,.c AO),(10,.c xs)],[(AxS,.box [x64,xs,xs])]⟩)])]⟩
def AeF:=JF 70 [RG,Jw,Jw] [Jt] (fun a=>Wl N a.1 a.2.1 a.2.2) [Agy N,Aiu N,jF N,Ai3 N,jG N] AcV AeE f70 N
open Go.Proofs Go.Proofs.Tryz
def vX:AyJ:=[AyH 3 [5],AyH 26 [5,14,15,16]]
def Aat:Lk:=⟨[],[(26,⟨[(5,.c xs),(14,.i),(15,.i),(16,.c x64)],[]⟩,[(0,⟨[(5,.c xs)],[]⟩)])]⟩
def Zu:=JF 39 [Sq0] [Jw,Jt] (Qx N) [PI N,Aay N,AiE N,LD N] vX Aat f39 N
def iL:=JH 157 [.cell false (.sl 129 Tq4)] [Jt] (P5 N) [AbI N] f157 N
open Go.Proofs Go.Proofs.Tryz
def o6:AyJ:=[AyH 53 [2,5]]
def rY:Lk:=⟨[(53,⟨[(2,.c AB),(5,.c xb)],[(AxQ,.box [x64,xs,Bc])]⟩)],[]⟩
def XL:=JF 167 [Afz,JM] [Jt] (fun a=>OY N a.1 a.2) [Adj N,Aau N,AlE N,Afb N,AiQ N,Afa N,PI N] o6 rY f167 N (bb:=[11,15,16,19,23,24,28,32,33,36,40,41,45,49,50,53,57,58])
def bJ:AyJ:=[AyH 3 [5],AyH 26 [5,17,18,19],AyH 45 [5,7,8,17,18,19]]
def gI:Lk:=⟨[(45,⟨[(5,.i),(7,.c AY),(8,.c xs),(17,.i),(18,.i),(19,.i)],[(34560,.box [xs,xb,xs])]⟩)],[(26,⟨[(5,.c xs),(17,.i),(18,.i),(19,.c x64)],[]⟩,[(0,⟨[(5,.c xs)],[]⟩)])]⟩
def UW:=JF 98 [.cell false (.sl 129 Tq4)] [Jw,Jt] (MH N) [iL N,Zr N,LD N,YM N,kX N] bJ gI f98 N
open Go.Proofs Go.Proofs.Tryz
def wF:AyJ:=[AyH 3 [],AyH 18 [9,10,11]]
def Aa4:Lk:=⟨[],[(18,⟨[(9,.i),(10,.i),(11,.c x64)],[]⟩,[(0,⟨[],[]⟩)])]⟩
def Zv:=JF 112 [.cell false (.sl 98 Tq1)] [Jt] (Qz N) [XL N] wF Aa4 f112 N
def o7:=JH 205 [Afz,JM] [Jw,Jt] (fun a=>Q5 N a.1 a.2) [XL N,Zu N,LD N] f205 N
def Afd:=JH 44 [Jt,.cell false (.sl 129 Tq4)] [Jw,Jt] (fun a=>ZO N a.1 a.2) [UW N,YM N] f44 N
open Go.Proofs Go.Proofs.Tryz
def Aa0:AyJ:=[AyH 3 [6],AyH 10 [2,4,6,11,12,13]]
def AbF:Lk:=⟨[],[(10,⟨[(2,.i),(4,.c AP),(6,.c AV),(11,.i),(12,.i),(13,.c x64)],[(AxT,.box [Bc]),(AxV,.box [A7,A7,A7,A7,(xo 34309)]),(34309,.JS 94 false Aq)]⟩,[(0,⟨[(6,.c AV)],[(AxV,.box [A7,A7,A7,A7,(xo 34309)]),(34309,.JS 94 false Aq)]⟩)])]⟩
def AbG:=JF 75 [Sq1,Sq0,Jt] [AjC,JM] (fun a=>Ux N a.1 a.2.1 a.2.2) [VI N] Aa0 AbF f75 N
def Aa5:=JH 53 [Sq1] [Jt] (TG N) [AbJ N,Zv N] f53 N
def rZ:AyJ:=[AyH 3 [],AyH 18 [10,11,12]]
def wB:Lk:=⟨[],[(18,⟨[(10,.i),(11,.i),(12,.c x64)],[]⟩,[(0,⟨[],[]⟩)])]⟩
def Yc:=JF 54 [.cell false (.sl 100 Tq2)] [Jt] (Oz N) [Zv N,PI N] rZ wB f54 N (bb:=[20,24,25,29,35,36])
def wE:AyJ:=[AyH 3 [],AyH 66 [1,2,5,7]]
def Aa2:Lk:=⟨[],[(66,⟨[(1,.i),(2,.c AB),(5,.c AQ),(7,.c x64)],[(AxQ,.box Bj),(AxU,.box Bq)]⟩,[(0,⟨[],[]⟩)])]⟩
def Aa3:=JF 55 [Sq1,Jt] [Jt] (fun a=>TF N a.1 a.2) [AgQ N,PI N,VI N] wE Aa2 f55 N (bb:=[24,28,29,33,34,38])
def vW:AyJ:=[AyH 3 [4],AyH 30 [4,15,16,17]]
def Aas:Lk:=⟨[],[(30,⟨[(4,.c xs),(15,.i),(16,.i),(17,.c x64)],[]⟩,[(0,⟨[(4,.c xs)],[]⟩)])]⟩
def Zt:=JF 156 [.cell false (.sl 98 Tq1)] [Jw,Jt] (Qw N) [o7 N] vW Aas f156 N
open Go.Proofs Go.Proofs.Tryz
def Abq:AyJ:=[AyH 7 [],AyH 21 [3,34],AyH 46 [66,67,68]]
def Acy:Lk:=⟨[(21,⟨[(3,.c AO),(34,.c xb)],[(AxS,.box [Bd,xb,xb,x64,xb])]⟩)],[(46,⟨[(66,.i),(67,.i),(68,.c x64)],[]⟩,[(1,⟨[],[]⟩)])]⟩
def Acz:=JF 49 [Sq1] [Jt] (Vl N) [VZ N] Abq Acy f49 N (bb:=[14,18,19,23,24,28,29,33,44,46,49,52,53,54])
def lX:AyJ:=[AyH 3 [],AyH 10 [6,7,8]]
def pK:Lk:=⟨[],[(10,⟨[(6,.i),(7,.i),(8,.c x64)],[]⟩,[(0,⟨[],[]⟩)])]⟩
def pM:=JF 164 [.cell false (.sl 98 Tq1)] [Jt] (QN N) [VZ N] lX pK f164 N
def Yl:=JH 79 [Afz,JM] [Jw,Jt] (fun a=>Om N a.1 a.2) [VZ N,Rz N,mX N] f79 N
def ZY:=JH 72 [Sq7] [RG] (QY N) [Uk N,zV N,vU N] f72 N
def Aem:AyJ:=[AyH 29 [1,2,4,6,11,13],(53,⟨[1,4,6],[],[(some AxV,2,Aq)],[],[]⟩)]
def Ago:Lk:=⟨[(29,⟨[(1,.i),(2,.c AB),(4,.c AP),(6,.c AV),(11,.i),(13,.c xb)],[(AxQ,.box [x64,xs,xs]),(AxT,.box [A7,A8,(xo 33795)]),(33795,.JS 94 false Aq),(AxV,.box [A7,A8,(xo 34307)]),(34307,.JS 94 false Aq)]⟩),(53,⟨[(1,.i),(4,.c AP),(6,.c AV)],[(AxT,.box [A7,A8,(xo 33795)]),(33795,.JS 94 false Aq),(AxV,.box [x64,xs,Bc])]⟩)],[]⟩
def Agp:=JF 314 [RG,JM] [Afz,Jt] (fun a=>yM N a.1 a.2) [mW N,VZ N] Aem Ago f314 N
def AjY:=JH 21 [Sq1,RG] [Jt] (fun a=>Xk N a.1 a.2) [AeF N] f21 N
def AkX:AyJ:=[(7,⟨[2,3],[],[],[(Ayd,1036864),(AxY,1036864)],[]⟩),AyH 17 [0,2,3],AyH 25 [0,2,3],AyH 33 [0,2,3],(69,⟨[0,2,3],[],[(some AxS,9,Tq1)],[],[]⟩),(77,⟨[0,2,3],[],[(some AxS,14,Tq2)],[],[]⟩),(82,⟨[0,2,3,4],[],[],[(Ayd,AxY),(69632,AxY),(Ayf,AxY)],[]⟩),(101,⟨[0,2,3,4,5],[],[],[(Ayd,Ays),(AxY,Ays)],[]⟩),(109,⟨[0,2,3,4,5],[],[],[(Ayd,AxX),(Ays,AxX)],[]⟩),(117,⟨[0,2,3,4,5],[],[],[(Ayd,Ayf),(AxX,Ayf)],[]⟩)]
def AmT:Lk:=⟨[(17,⟨[(0,.c AL),(2,.c AB),(3,.c AO)],[(0,.box BA),(AxQ,.box Bl),(Ayj,.JS 94 false Aq),(Ayk,.JS 98 false Tq1),(Ayl,.JS 100 false Tq2),(Aym,.JS 48 false Tq3),(AxS,.box [A8,A8,Bc,x64,x64,x64,(.c (.int .i64 (-1))),A8,AA,(xo 33646),AA,AA,A7,AA,(xo Ayq),(xo Ayd),A8]),(33646,.JS 98 false Tq1),(Ayq,.JS 100 false Tq2),(Ayd,.JS 48 false Tq3)]⟩),(25,⟨[(0,.c AL),(2,.c AB),(3,.c AO)],[(0,.box BA),(AxQ,.box Bl),(Ayj,.JS 94 false Aq),(Ayk,.JS 98 false Tq1),(Ayl,.JS 100 false Tq2),(Aym,.JS 48 false Tq3),(AxS,.box [A8,A8,Bc,x64,x64,x64,x64,A8,AA,(xo 33646),AA,AA,A7,AA,(xo Ayq),(xo Ayd),A8]),(33646,.JS 98 false Tq1),(Ayq,.JS 100 false Tq2),(Ayd,.JS 48 false Tq3)]⟩),(33,⟨[(0,.c AL),(2,.c AB),(3,.c AO)],[(0,.box BA),(AxQ,.box Bl),(Ayj,.JS 94 false Aq),(Ayk,.JS 98 false Tq1),(Ayl,.JS 100 false Tq2),(Aym,.JS 48 false Tq3),(AxS,.box [A8,A8,Bc,x64,x64,x64,x64,xs,AA,(xo 33646),AA,AA,A7,AA,(xo Ayq),(xo Ayd),A8]),(33646,.JS 98 false Tq1),(Ayq,.JS 100 false Tq2),(Ayd,.JS 48 false Tq3)]⟩),(69,⟨[(0,.c AL),(2,.c AB),(3,.c AO)],[(0,.box BA),(AxQ,.box Bl),(Ayj,.JS 94 false Aq),(Ayk,.JS 98 false Tq1),(Ayl,.JS 100 false Tq2),(Aym,.JS 48 false Tq3),(AxS,.box [A8,A8,Bc,x64,x64,x64,x64,xs,xb,Bd,xb,xb,x64,xb,(xo Ayq),(xo Ayd),A8]),(Ayq,.JS 100 false Tq2),(Ayd,.JS 48 false Tq3)]⟩),(77,⟨[(0,.c AL),(2,.c AB),(3,.c AO)],[(0,.box BA),(AxQ,.box Bl),(Ayj,.JS 94 false Aq),(Ayk,.JS 98 false Tq1),(Ayl,.JS 100 false Tq2),(Aym,.JS 48 false Tq3),(AxS,.box [A8,A8,Bc,x64,x64,x64,x64,xs,xb,Bd,xb,xb,x64,xb,Be,(xo Ayd),A8]),(Ayd,.JS 48 false Tq3)]⟩),(101,⟨[(0,.c AL),(2,.c AB),(3,.c AO),(4,.i),(5,.c AQ)],[(0,.box BA),(AxQ,.box Bl),(Ayj,.JS 94 false Aq),(Ayk,.JS 98 false Tq1),(Ayl,.JS 100 false Tq2),(Aym,.JS 48 false Tq3),(AxS,.box [A8,A8,Bc,x64,x64,x64,x64,xs,xb,Bd,xb,xb,x64,xb,Be,(xo Ays),A8]),(AxU,.box Bq),(Ays,.arr 48 false Tq3)]⟩),(109,⟨[(0,.c AL),(2,.c AB),(3,.c AO),(4,.i),(5,.c AQ)],[(0,.box BA),(AxQ,.box Bl),(Ayj,.JS 94 false Aq),(Ayk,.JS 98 false Tq1),(Ayl,.JS 100 false Tq2),(Aym,.JS 48 false Tq3),(AxS,.box [A8,A8,Bc,x64,x64,x64,x64,xs,xb,Bd,xb,xb,x64,xb,Be,(xo AxX),A8]),(AxU,.box Bq),(AxX,.arr 48 false Tq3)]⟩),(117,⟨[(0,.c AL),(2,.c AB),(3,.c AO),(4,.i),(5,.c AQ)],[(0,.box BA),(AxQ,.box Bl),(Ayj,.JS 94 false Aq),(Ayk,.JS 98 false Tq1),(Ayl,.JS 100 false Tq2),(Aym,.JS 48 false Tq3),(AxS,.box [A8,A8,Bc,x64,x64,x64,x64,xs,xb,Bd,xb,xb,x64,xb,Be,(xo Ayf),A8]),(AxU,.box Bq),(Ayf,.arr 48 false Tq3)]⟩)],[(82,⟨[(0,.c AL),(2,.c AB),(3,.c AO),(4,.c x64)],[(0,.box BA),(AxQ,.box Bl),(Ayj,.JS 94 false Aq),(Ayk,.JS 98 false Tq1),(Ayl,.JS 100 false Tq2),(Aym,.JS 48 false Tq3),(AxS,.box [A8,A8,Bc,x64,x64,x64,x64,xs,xb,Bd,xb,xb,x64,xb,Be,(xo AxY),A8]),(AxY,.arr 48 false Tq3)]⟩,[(1,⟨[(2,.c AB),(3,.c AO)],[(0,.box BA),(AxQ,.box Bl),(Ayj,.JS 94 false Aq),(Ayk,.JS 98 false Tq1),(Ayl,.JS 100 false Tq2),(Aym,.JS 48 false Tq3),(AxS,.box [A8,A8,Bc,x64,x64,x64,x64,xs,xb,Bd,xb,xb,x64,xb,Be,(xo 1036864),A8]),(1036864,.arr 48 false Tq3)]⟩)])]⟩
def AmU:=JF 24 [oU] [AxA] (jE N) [NH N,W9 N,Acb N,nK N,Ais N,AbG N] AkX AmT f24 N (cc:=[135])
def Aaz:AyJ:=[AyH 3 [],AyH 94 [1,104,105]]
def AbE:Lk:=⟨[],[(94,⟨[(1,.c AU),(104,.i),(105,.c x64)],[(Ayc,.box Bj)]⟩,[(0,⟨[],[]⟩)])]⟩
def aF:=JF 11 [Sq1] [Jt] (Rl N) [PI N,Aa5 N,Yc N,Aa3 N] Aaz AbE f11 N (bb:=[22,26,27,31,32,36,37,43,47,51,52,56,57,61,62,66,72,73])
open Go.Proofs Go.Proofs.Tryz
def aG:=JH 97 [Sq0] [Jw] (Ro N) [Zt N] f97 N
def aH:=JH 99 [.cell false (.sl 98 Tq1)] [Jw] (Ov N) [Zt N,LD N] f99 N
open Go.Proofs Go.Proofs.Tryz
def lZ:AyJ:=[AyH 13 [1,4]]
def pO:Lk:=⟨[(13,⟨[(1,.c AU),(4,.c xb)],[(Ayc,.box BJ)]⟩)],[]⟩
def pR:=JF 107 [Awi] [Jt] (QO N) [pM N,QB N] lZ pO f107 N
def AdK:AyJ:=[(17,⟨[0,4,5,7],[([7],129,Tq4,AxN)],[],[(38400,AxN)],[]⟩),(25,⟨[0,4,5,7],[],[],[(Ayo,AxO),(AxN,AxO)],[]⟩),(37,⟨[0,4,7],[],[],[(47360,AxP),(AxO,AxP)],[]⟩),AyH 49 [0,4,9]]
def AfJ:Lk:=⟨[(17,⟨[(0,.c AL),(4,.c AP),(5,.c AQ),(7,.c (xo AxN))],[(0,.box [xb]),(AxT,.box Bq),(AxU,.box [Bc]),(AxN,.arr 129 false Tq4)]⟩),(25,⟨[(0,.c AL),(4,.c AP),(5,.c AQ),(7,.c (xo AxO))],[(0,.box [xb]),(AxT,.box Bq),(AxU,.box [Bc]),(AxO,.arr 129 false Tq4)]⟩),(37,⟨[(0,.c AL),(4,.c AP),(7,.c (xo AxP))],[(0,.box [xb]),(AxT,.box Bq),(AxP,.arr 129 false Tq4)]⟩),(49,⟨[(0,.c AL),(4,.c AP),(9,.c xs)],[(0,.box [xb]),(AxT,.box Bq)]⟩)],[]⟩
def AfK:=JF 28 [.box [(false,.bool)],AjC,Sq0] [Jw] (fun a=>Xn N a.1 a.2.1 a.2.2) [aB N,L9 N,uF N,Nb N,ZC N,Yl N,OH N,yE N,Wv N] AdK AfJ f28 N
def vI:AyJ:=[AyH 3 [5],AyH 26 [5,16,17,18]]
def yO:Lk:=⟨[],[(26,⟨[(5,.c xs),(16,.i),(17,.i),(18,.c x64)],[]⟩,[(0,⟨[(5,.c xs)],[]⟩)])]⟩
def Zg:=JF 150 [.cell false (.sl 98 Tq1)] [Jw,Jt] (NF N) [uM N,Yl N] vI yO f150 N
def vS:AyJ:=[AyH 3 [10],AyH 42 [0,10,11,12]]
def zS:Lk:=⟨[],[(42,⟨[(0,.c AL),(10,.c xs),(11,.c x64),(12,.c x64)],[(0,.box Bz)]⟩,[(0,⟨[(10,.c xs)],[(0,.box Bz)]⟩)])]⟩
def zT:=JF 118 [Sq7,Jt,Jw] [Jw,Jt] (fun a=>Tz N a.1 a.2.1 a.2.2) [Uk N,Tv N,ZY N,jF N,ApN N,kS N] vS zS f118 N (kk:=[(72,[(0,1),(0,2),(0,3)])])
def vH:AyJ:=[(3,⟨[7],[([7],98,Tq1,AxO)],[],[(AxN,AxO)],[]⟩),(38,⟨[7,26,27,28],[([7],98,Tq1,AxN)],[],[(43776,AxN)],[]⟩)]
def yN:Lk:=⟨[],[(38,⟨[(7,.c (xo AxN)),(26,.i),(27,.i),(28,.c x64)],[(AxN,.arr 98 false Tq1)]⟩,[(0,⟨[(7,.c (xo AxO))],[(AxO,.arr 98 false Tq1)]⟩)])]⟩
def UI:=JF 279 [Jw] [.cell false (.sl 98 Tq1),Jt] (Qi N) [Ry N,uM N,Agp N] vH yN f279 N
def wG:=JF 22 [Sq8] [RG] (PK N) [TL N,ZY N] [] AyK f22 N (kk:=[(72,[(0,1),(0,2),(0,3)])])
def AcJ:AyJ:=[AyH 21 [0,3,4,5,6]]
def Ae4:Lk:=⟨[(21,⟨[(0,.c AL),(3,.c AO),(4,.c AP),(5,.c AQ),(6,.c x64)],[(0,.box BA),(AxS,.box Bj),(AxT,.box [A8,A8,(xo 33795),A7,A7,A7,A7,A8,AA,(xo 33802),AA,AA,A7,AA,(xo 33807),(xo 33808),A8]),(33795,.JS 94 false Aq),(33802,.JS 98 false Tq1),(33807,.JS 100 false Tq2),(33808,.JS 48 false Tq3),(AxU,.box [xs,xs,Bc,x64,x64,x64,x64,xs,xb,Bd,xb,xb,x64,xb,Be,(xo 34832),xs]),(34832,.arr 48 false Tq3)]⟩)],[]⟩
def Ae5:=JF 6 [oU,Sq1] [Sq1] (fun a=>Wh N a.1 a.2) [AmU N,NH N,Aca N,Acb N] AcJ Ae4 f6 N
def AgP:AyJ:=[(17,⟨[2,3,5],[([5],129,Tq4,AxN)],[],[(37888,AxN)],[]⟩),(29,⟨[2,3,5],[],[],[(41472,AxO),(AxN,AxO)],[]⟩),(37,⟨[2,5],[],[],[(45056,AxP),(AxO,AxP)],[]⟩),AyH 49 [2,8]]
def AiV:Lk:=⟨[(17,⟨[(2,.c AB),(3,.c AO),(5,.c (xo AxN))],[(AxQ,.box Bq),(AxS,.box [Bc]),(AxN,.arr 129 false Tq4)]⟩),(29,⟨[(2,.c AB),(3,.c AO),(5,.c (xo AxO))],[(AxQ,.box Bq),(AxS,.box [Bc]),(AxO,.arr 129 false Tq4)]⟩),(37,⟨[(2,.c AB),(5,.c (xo AxP))],[(AxQ,.box Bq),(AxP,.arr 129 false Tq4)]⟩),(49,⟨[(2,.c AB),(8,.c xs)],[(AxQ,.box Bq)]⟩)],[]⟩
def AiW:=JF 41 [AjC,Sq0] [Jw] (fun a=>YO N a.1 a.2) [Yz N,Zq N,VI N,aG N,LD N,UW N] AgP AiV f41 N
open Go.Proofs Go.Proofs.Tryz
def AbD:=JH 46 [] [Jw] (fun _=>Rk N) [kX N,LD N] f46 N
open Go.Proofs Go.Proofs.Tryz
def oD:AyJ:=[AyH 3 [5],AyH 34 [5,17,18,19],AyH 53 [5,7,8,17,18,19]]
def sD:Lk:=⟨[(53,⟨[(5,.i),(7,.c AY),(8,.c xs),(17,.i),(18,.i),(19,.i)],[(34560,.box BJ)]⟩)],[(34,⟨[(5,.c xs),(17,.i),(18,.i),(19,.c x64)],[]⟩,[(0,⟨[(5,.c xs)],[]⟩)])]⟩
def sF:=JF 102 [.cell false (.sl 100 Tq2)] [Jw,Jt] (Rn N) [Yc N,aG N,LD N,aH N,uV N,YM N] oD sD f102 N
open Go.Proofs Go.Proofs.Tryz
def jV:AyJ:=[AyH 3 [],AyH 18 [9,10,11]]
def lV:Lk:=⟨[],[(18,⟨[(9,.i),(10,.i),(11,.c x64)],[]⟩,[(0,⟨[],[]⟩)])]⟩
def Su:=JF 50 [.cell false (.sl 100 Tq2)] [Jt] (MJ N) [pR N] jV lV f50 N
def AdL:AyJ:=[AyH 17 [0,3,5,6],AyH 25 [0,3,5,6]]
def AfL:Lk:=⟨[(17,⟨[(0,.c AL),(3,.c AO),(5,.c xs),(6,.i)],[(0,.box [xb]),(AxS,.box [Bd,xb,xb,x64,xb])]⟩),(25,⟨[(0,.c AL),(3,.c AO),(5,.i),(6,.c xs)],[(0,.box [xb]),(AxS,.box [Bd,xb,xb,x64,xb])]⟩)],[]⟩
def AfM:=JF 88 [.box [(false,.bool)],AsI] [Jw] (fun a=>UB N a.1 a.2) [Zg N,Nb N,L9 N,jM N,Abv N,OH N] AdL AfL f88 N
def sS:=JH 60 [Sq8,Jw] [Jw,Jt] (fun a=>OZ N a.1 a.2) [TL N,sQ N,zT N] f60 N
def AdI:=JH 277 [Jw] [Sq0,Jt] (tZ N) [⟨120,O7 N,Sz N⟩,UI N] f277 N
def AdJ:AyJ:=[(53,⟨[2,4,5,6],[],[(some AxU,0,Tq1)],[],[]⟩),AyH 105 [2,4,5,6]]
def AfG:Lk:=⟨[(53,⟨[(2,.c AB),(4,.c AP),(5,.c AQ),(6,.c (.c (.ptr 36864 0)))],[(AxQ,.box [(xo Aya),AA,AA,A7,AA]),(Aya,.JS 98 false Tq1),(AxT,.box [(xo Ayh),AA,AA,A7,AA]),(Ayh,.JS 98 false Tq1),(AxU,.box [Bd,AA,AA,A7,AA]),(36864,.box [Bi])]⟩),(105,⟨[(2,.c AB),(4,.c AP),(5,.c AQ),(6,.c (.c (.ptr 36864 0)))],[(AxQ,.box [(xo Aya),AA,AA,A7,AA]),(Aya,.JS 98 false Tq1),(AxT,.box [(xo Ayh),AA,AA,A7,AA]),(Ayh,.JS 98 false Tq1),(AxU,.box [Bd,xb,xb,x64,AA]),(36864,.box [Bi])]⟩)],[]⟩
def AfH:=JF 244 [Jw] [AsI,Jt] (xK N) [Qg N,⟨120,O7 N,Sz N⟩,UI N,Abu N,Aad N,Ox N] AdJ AfG f244 N (aa:=[(62,Vo N)]) (hA:=⟨Xp N,trivial⟩)
def kC:AyJ:=[(45,⟨[0,2,4,5],[],[(some AxU,0,Tq1)],[],[]⟩),AyH 73 [0,2,4,5],(105,⟨[0,2,4,5],[],[(some AxU,3,Aq)],[],[]⟩)]
def mD:Lk:=⟨[(45,⟨[(0,.c AL),(2,.c AB),(4,.c AP),(5,.c AQ)],[(0,.box [Bi]),(AxQ,.box BD),(Aya,.JS 98 false Tq1),(33284,.JS 94 false Aq),(AxT,.box BF),(Ayh,.JS 98 false Tq1),(33796,.JS 94 false Aq),(AxU,.box [Bd,A7,AA,(xo 34052)]),(34052,.JS 94 false Aq)]⟩),(73,⟨[(0,.c AL),(2,.c AB),(4,.c AP),(5,.c AQ)],[(0,.box [Bi]),(AxQ,.box BD),(Aya,.JS 98 false Tq1),(33284,.JS 94 false Aq),(AxT,.box BF),(Ayh,.JS 98 false Tq1),(33796,.JS 94 false Aq),(AxU,.box [Bd,x64,AA,(xo 34052)]),(34052,.JS 94 false Aq)]⟩),(105,⟨[(0,.c AL),(2,.c AB),(4,.c AP),(5,.c AQ)],[(0,.box [Bi]),(AxQ,.box BD),(Aya,.JS 98 false Tq1),(33284,.JS 94 false Aq),(AxT,.box BF),(Ayh,.JS 98 false Tq1),(33796,.JS 94 false Aq),(AxU,.box BJ)]⟩)],[]⟩
def mF:=JF 282 [VA] [Awi,Jt] (XZ N) [Qg N,⟨120,O7 N,Sz N⟩,UI N,Aad N,Ox N] kC mD f282 N
def iM:AyJ:=[(17,⟨[1,4],[([4],129,Tq4,AxN)],[],[(37888,AxN)],[]⟩),(29,⟨[1,4],[],[],[(39680,AxO),(42240,AxO)],[]⟩),(41,⟨[1,4],[],[],[(49664,AxP),(AxO,AxP)],[]⟩)]
def kZ:Lk:=⟨[(17,⟨[(1,.c AU),(4,.c (xo AxN))],[(Ayc,.box Bj),(AxN,.arr 129 false Tq4)]⟩),(29,⟨[(1,.c AU),(4,.c (xo AxO))],[(Ayc,.box Bj),(AxO,.arr 129 false Tq4)]⟩),(41,⟨[(1,.c AU),(4,.c (xo AxP))],[(Ayc,.box Bj),(AxP,.arr 129 false Tq4)]⟩)],[]⟩
def l7:=JF 43 [Sq1] [.cell false (.sl 129 Tq4),Jt] (PQ N) [LD N,Yz N,aH N,Afc N,uV N,sF N] iM kZ f43 N
open Go.Proofs Go.Proofs.Tryz
def AjW:AyJ:=[AyH 3 [],AyH 94 [1,88,89]]
def Amy:Lk:=⟨[],[(94,⟨[(1,.c AU),(88,.i),(89,.c x64)],[(Ayc,.box Bj)]⟩,[(0,⟨[],[]⟩)])]⟩
def kD:=JF 10 [Sq1] [Jt] (WL N) [QB N,AdN N,Acz N,Su N,Acx N] AjW Amy f10 N (bb:=[40,45,46,50,56,57])
def iD:AyJ:=[(3,⟨[5,6],[([6],9,Au,AxW)],[],[(AxN,AxW)],[]⟩),(38,⟨[5,6,22,23,24],[([6],9,Au,AxN)],[],[(54272,AxN)],[]⟩),(57,⟨[5,6,8,9,22,23,24],[([6],9,Au,AxO)],[],[(AxN,AxO)],[]⟩),(65,⟨[5,6,8,9,22,23,24],[([6],9,Au,AxP)],[],[(AxO,AxP)],[]⟩),(77,⟨[5,6,9,22,23,24],[([6],9,Au,AxR)],[],[(AxP,AxR)],[]⟩)]
def jY:Lk:=⟨[(57,⟨[(5,.c AZ),(6,.c (xo AxO)),(8,.c AX),(9,.c (xo 39936)),(22,.i),(23,.i),(24,.i)],[(Ayb,.box BJ),(38144,.box [xb]),(39936,.arr 9 false Au),(AxO,.arr 9 false Au)]⟩),(65,⟨[(5,.c AZ),(6,.c (xo AxP)),(8,.c AX),(9,.c (xo 39936)),(22,.i),(23,.i),(24,.i)],[(Ayb,.box BJ),(38144,.box [xb]),(39936,.arr 9 false Au),(AxP,.arr 9 false Au)]⟩),(77,⟨[(5,.c AZ),(6,.c (xo AxR)),(9,.c (xo 39936)),(22,.i),(23,.i),(24,.i)],[(38144,.box [xb]),(39936,.arr 9 false Au),(AxR,.arr 9 false Au)]⟩)],[(38,⟨[(5,.c AZ),(6,.c (xo AxN)),(22,.i),(23,.i),(24,.c x64)],[(38144,.box [xb]),(AxN,.arr 9 false Au)]⟩,[(0,⟨[(5,.c AZ),(6,.c (xo AxW))],[(38144,.box [xb]),(AxW,.arr 9 false Au)]⟩)])]⟩
def jZ:=JF 89 [.cell false (.sl 100 Tq2)] [Jw,Jt] (PN N) [Su N,Zg N,Nb N,L9 N,jM N,Yl N,OH N,⟨38,Wu N,Ui N⟩] iD jY f89 N
def AdO:=JH 240 [Ax9,AjB] [Jt] (fun a=>uC N a.1 a.2) [uA N,AhW N,AdI N] f240 N
def gZ:AyJ:=[(3,⟨[6],[([6],100,Tq2,AxO)],[],[(AxN,AxO)],[]⟩),(30,⟨[4,6],[([6],100,Tq2,AxN)],[],[(44032,AxN)],[]⟩)]
def jW:Lk:=⟨[],[(30,⟨[(4,.c (.c (.ptr 36096 0))),(6,.c (xo AxN))],[(36096,.box [Bi]),(AxN,.arr 100 false Tq2)]⟩,[(0,⟨[(6,.c (xo AxO))],[(AxO,.arr 100 false Tq2)]⟩)])]⟩
def jX:=JF 245 [Jw] [.cell false (.sl 100 Tq2),Jt] (Xi N) [ZW N,mF N,Su N] gZ jW f245 N (aa:=[(62,Vo N),(180,Q3 N)]) (hA:=⟨Xp N,WO N,trivial⟩)
def kY:AyJ:=[AyH 3 [1,5,7,9,11],AyH 42 [1,5,7,9,11,12,46,47,48],AyH 81 [1,5,7,9,11]]
def o8:Lk:=⟨[(81,⟨[(1,.c AU),(5,.i),(7,.i),(9,.i),(11,.c xs)],[(Ayc,.box Bj)]⟩)],[(42,⟨[(1,.c AU),(5,.i),(7,.i),(9,.i),(11,.c xs),(12,.c (.c (.ptr 35840 0))),(46,.i),(47,.i),(48,.c x64)],[(Ayc,.box Bj),(35840,.box [Bc])]⟩,[(0,⟨[(1,.c AU),(5,.i),(7,.i),(9,.i),(11,.c xs)],[(Ayc,.box Bj)]⟩)])]⟩
def o9:=JF 9 [Sq1] [Jw,Jt] (Q7 N) [aF N,Zu N,Zq N,AiW N,YM N,l7 N,Afd N,Yz N,AbD N] kY o8 f9 N
open Go.Proofs Go.Proofs.Tryz
def mO:AyJ:=[(17,⟨[0,3,5],[([5],129,Tq4,AxN)],[],[(37888,AxN)],[]⟩),(29,⟨[0,3,5],[],[],[(39936,AxO),(42752,AxO)],[]⟩),(37,⟨[0,3,5],[],[],[(45312,AxP),(AxO,AxP)],[]⟩)]
def pX:Lk:=⟨[(17,⟨[(0,.c AL),(3,.c AO),(5,.c (xo AxN))],[(0,.box [xb]),(AxS,.box Bj),(AxN,.arr 129 false Tq4)]⟩),(29,⟨[(0,.c AL),(3,.c AO),(5,.c (xo AxO))],[(0,.box [xb]),(AxS,.box Bj),(AxO,.arr 129 false Tq4)]⟩),(37,⟨[(0,.c AL),(3,.c AO),(5,.c (xo AxP))],[(0,.box [xb]),(AxS,.box Bj),(AxP,.arr 129 false Tq4)]⟩)],[]⟩
def pY:=JF 37 [.box [(false,.bool)],Sq1] [.cell false (.sl 129 Tq4)] (fun a=>QQ N a.1 a.2) [L9 N,OH N,Wv N,AfM N,jZ N,Nb N] mO pX f37 N
def xI:AyJ:=[AyH 3 [0,4,6,7],AyH 66 [0,4,6,7,57,58,59],AyH 89 [0,4,6,7]]
def Abr:Lk:=⟨[(89,⟨[(0,.c AL),(4,.c AP),(6,.c AV),(7,.c AY)],[(0,.box [Bi]),(AxT,.box BH),(33797,.JS 94 false Aq),(AxV,.box BI),(34409,.JS 94 false Aq),(34560,.box Bq)]⟩)],[(66,⟨[(0,.c AL),(4,.c AP),(6,.c AV),(7,.c AY),(57,.i),(58,.i),(59,.c x64)],[(0,.box [Bi]),(AxT,.box BH),(33797,.JS 94 false Aq),(AxV,.box BI),(34409,.JS 94 false Aq),(34560,.box Bq)]⟩,[(0,⟨[(0,.c AL),(4,.c AP),(6,.c AV),(7,.c AY)],[(0,.box [Bi]),(AxT,.box BH),(33797,.JS 94 false Aq),(AxV,.box BI),(34409,.JS 94 false Aq),(34560,.box Bq)]⟩)])]⟩
def Abs:=JF 181 [VA,Sq0] [AjC,Jt] (fun a=>iZ N a.1 a.2) [mM N,xM N,AdP N,Qg N,yD N,AdO N,Ox N] xI Abr f181 N
def AfN:=JH 183 [AsJ,AjB] [Jt] (fun a=>xN N a.1 a.2) [xJ N,uA N,AfH N,jX N] f183 N
open Go.Proofs Go.Proofs.Tryz
def AoF:AyJ:=[(3,⟨[1,5,7],[([7],9,Au,AxP)],[],[(AxO,AxP)],[]⟩),(42,⟨[1,5,7,8,26,27,28],[([7],9,Au,AxO)],[],[(42496,AxO)],[]⟩),AyH 65 [1,5,6]]
def AqX:Lk:=⟨[(65,⟨[(1,.c AU),(5,.c (.c (.ptr 37376 0))),(6,.c xs)],[(Ayc,.box Bj),(37376,.box [xb])]⟩)],[(42,⟨[(1,.c AU),(5,.c (.c (.ptr 37376 0))),(7,.c (xo AxO)),(8,.c AX),(26,.i),(27,.i),(28,.c x64)],[(Ayc,.box Bj),(Ayb,.box [Bc]),(37376,.box [xb]),(AxO,.arr 9 false Au)]⟩,[(0,⟨[(1,.c AU),(5,.c (.c (.ptr 37376 0))),(7,.c (xo AxP))],[(Ayc,.box Bj),(37376,.box [xb]),(AxP,.arr 9 false Au)]⟩)])]⟩
def xH:=JF 8 [Sq1] [Jw,Jt] (WM N) [kD N,AfK N,OH N,Wv N,Yb N,mX N,Nb N,uF N,pY N,yE N,L9 N,⟨38,Wu N,Ui N⟩] AoF AqX f8 N
def pW:AyJ:=[(3,⟨[8],[([8],48,Tq3,AxO)],[],[(AxN,AxO)],[]⟩),(30,⟨[3,6,8],[([8],48,Tq3,AxN)],[],[(44544,AxN)],[]⟩)]
def vF:Lk:=⟨[],[(30,⟨[(3,.c AO),(6,.c (.c (.ptr 36352 0))),(8,.c (xo AxN))],[(AxS,.box [Bc]),(36352,.box [Bi]),(AxN,.arr 48 false Tq3)]⟩,[(0,⟨[(8,.c (xo AxO))],[(AxO,.arr 48 false Tq3)]⟩)])]⟩
def vG:=JF 127 [Jw,Sq0] [.cell false (.sl 48 Tq3),Jt] (fun a=>ZV N a.1 a.2) [ZW N,Abs N] pW vF f127 N (aa:=[(121,Qd N),(180,Q3 N)]) (hA:=⟨Tn N,WO N,trivial⟩)
def iE:AyJ:=[AyH 3 [7],AyH 26 [0,7,21,22,23]]
def kE:Lk:=⟨[],[(26,⟨[(0,.c AL),(7,.c (xo 37632)),(21,.i),(22,.i),(23,.c x64)],[(0,.box Bj),(37632,.mp Au (.bool .nil))]⟩,[(0,⟨[(7,.c (xo 37632))],[(0,.box Bj),(37632,.mp Au (.bool .nil))]⟩)])]⟩
def kF:=JF 128 [AsJ,Jw] [Jt] (fun a=>Xl N a.1 a.2) [yD N,AfN N] iE kE f128 N
open Go.Proofs Go.Proofs.Tryz
def Amz:=JH 18 [Sq1,Sq8] [Jw,Jt] (fun a=>Za N a.1 a.2) [xH N,sS N,AoE N] f18 N
def Ac0:AyJ:=[AyH 117 [0,5,9]]
def AdG:Lk:=⟨[(117,⟨[(0,.c AL),(5,.c (.c (.ptr 36608 0))),(9,.c (.c (.ptr 35072 0)))],[(0,.box Bj),(35072,.box [x64,xs,xs]),(36608,.box [Bi])]⟩)],[]⟩
def AdH:=JF 64 [AsJ,Jw] [Jt] (fun a=>tY N a.1 a.2) [xM N,iY N,Oy N,mW N,AdP N,Qg N,vG N,kF N,Ox N] Ac0 AdG f64 N (aa:=[(121,Qd N)]) (hA:=⟨Tn N,trivial⟩)
open Go.Proofs Go.Proofs.Tryz
def AjX:=JF 19 [Jw] [Sq1,Jt] (Xj N) [Oy N,AdH N,iY N,AdM N,Ox N,kD N,xH N] [] AyK f19 N (aa:=[(62,Vo N)]) (hA:=⟨Xp N,trivial⟩)
open Go.Proofs Go.Proofs.Tryz
def Aiq:=JF 5 [] [JM] (fun _=>RQ N) [AmW N,W9 N,Amz N,AjX N,AoD N,wG N,AjY N,Ahm N] [] AyK f5 N (aa:=[(15,gK N)]) (bb:=[45,48,49,55,56,58,59,63,64,67]) (ss:=[(8,7,49,[50,51,52,53,54])]) (hA:=⟨AgT N,trivial⟩)
open Go.Proofs Go.Proofs.Tryz
def Aby:AyJ:=[AyH 3 [],AyH 18 [20,21,22]]
def AcI:Lk:=⟨[],[(18,⟨[(20,.c (xo 37888)),(21,.i),(22,.c x64)],[(37888,.arr 31 false Tq6)]⟩,[(0,⟨[],[]⟩)])]⟩
def Ql:Sig:=.of [Sq1,AjD] [JM] (fun a=>SC N a.1 a.2)
def vN:lL 3 (Ql N):=AaX (AaS (ksp [AcO N,Aiq N,Ap4 N,Ae5 N,xH N,o9 N,kD N,aF N]) Aby) AcI f3 N (NQ (Q4 _))
end
end Go.Proofs.YtehkhflpjkokeaaGreatDoor.Vm
