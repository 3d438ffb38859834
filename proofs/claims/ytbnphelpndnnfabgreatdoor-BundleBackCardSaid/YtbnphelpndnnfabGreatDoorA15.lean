import Derived.Test.YtbnphelpndnnfabGreatDoorA12
import Derived.Test.YtbnphelpndnnfabGreatDoorA13
import Derived.Test.YtbnphelpndnnfabGreatDoorA14
set_option linter.all false
namespace Go.Proofs.YtbnphelpndnnfabGreatDoor.Vm
noncomputable section
variable (N:Nat)
open Go.Proofs
def lJ:Sig:=.of [Sq0] [Sq1] (fun a=>PZ N a)
theorem oU:Dn 5 (lJ N):=Dt (Dq [] []) ⟨[],[]⟩ Tryz.f5 N (Dk trivial)
def Ez:Sig:=.of [Sq1,Dp] [Dp] (fun a=>Dz N a.1 a.2)
theorem Ei:Dn 6 (Ez N):=Dt (Dq [] []) ⟨[],[]⟩ Tryz.f6 N (Dk trivial)
def AhE:List (Nat×Nrm):=[(3,⟨[4],[([4],3,Au,1012288)],[],[(1000000,1012288)],[]⟩),(11,⟨[0,4,6,8],[([4],3,Au,1008192)],[],[(1004096,1008192)],[]⟩),(18,⟨[0,4,5,6],[([4],3,Au,1000000)],[],[(53760,1000000)],[]⟩),(58,⟨[0,4,6,7,8,9],[([4],3,Au,1004096)],[],[(1000000,1004096)],[]⟩)]
def AjQ:Lk:=⟨[],[(18,⟨[(0,.i),(4,.c (xo 1000000)),(5,.c x64),(6,.c x64)],[(1000000,.arr 3 false Au)]⟩,[(0,⟨[(4,.c (xo 1012288))],[(1012288,.arr 3 false Au)]⟩)]),(58,⟨[(0,.i),(4,.c (xo 1004096)),(6,.i),(7,.i),(8,.c x64),(9,.c x64)],[(1004096,.arr 3 false Au)]⟩,[(2,⟨[(0,.i),(4,.c (xo 1008192)),(6,.i),(8,.c x64)],[(1008192,.arr 3 false Au)]⟩)])]⟩
def Y1:Sig:=.of [Dw] [Sq0,DJ] (fun a=>mO N a)
theorem ZH:Dn 308 (Y1 N):=Dt (Dq [] AhE [] [] [] [43,47,48,52,56,57,58,62,88,93,94,99,104,105]) AjQ Tryz.f308 N (Dk trivial)
def AhH:List (Nat×Nrm):=[(3,⟨[],[],[],[],[]⟩),(10,⟨[0,3],[],[],[],[]⟩),(15,⟨[0,3,5,6,7],[],[],[],[]⟩),(65,⟨[0,3,4,5,6],[],[],[],[]⟩),(82,⟨[0,3,5,6,7,8],[],[],[],[]⟩)]
def AjS:Lk:=⟨[(65,⟨[(0,.i),(3,.c x64),(4,.i),(5,.c x64),(6,.c x64)],[]⟩)],[(10,⟨[(0,.i),(3,.c x64)],[]⟩,[(0,⟨[],[]⟩)]),(82,⟨[(0,.i),(3,.i),(5,.i),(6,.i),(7,.c x64),(8,.c x64)],[]⟩,[(3,⟨[(0,.i),(3,.i),(5,.i),(6,.i),(7,.c x64)],[]⟩)])]⟩
def yA:Sig:=.of [Dw] [DJ] (fun a=>AeA N a)
theorem AeB:Dn 364 (yA N):=Dt (Dq [] AhH [] [] [] [87,90,91,94,97,98]) AjS Tryz.f364 N (Dk trivial)
def PE:Sig:=.of [.cell false (.int .u8)] [DJ] (fun a=>Pe N a)
theorem Qe:Dn 365 (PE N):=Dt (Dq [] [] [] [] [] [5,8,9,12,15,16,17,20,23,24]) ⟨[],[]⟩ Tryz.f365 N (Dk trivial)
def AfZ:List (Nat×Nrm):=[(3,⟨[],[],[],[],[]⟩),(10,⟨[0,1,5],[],[],[],[]⟩)]
def Ah7:Lk:=⟨[],[(10,⟨[(0,.i),(1,.i),(5,.c x64)],[]⟩,[(0,⟨[],[]⟩)])]⟩
def VO:Sig:=.of [.cell false (.int .u8),Dw] [DJ] (fun a=>Pg N a.1 a.2)
theorem Yv:Dn 366 (VO N):=Dt (Dq [] AfZ) Ah7 Tryz.f366 N (Dk trivial)
def WO:Sig:=.of [Sq3] [DJ] (fun a=>MV N a)
theorem nN:Dn 203 (WO N):=Dt (Dq [] [] [] [] [] [7,11,12,16,17,21,22,26]) ⟨[],[]⟩ Tryz.f203 N (Dk trivial)
def Agk:List (Nat×Nrm):=[(3,⟨[5],[([5],9,Aq,1004096)],[],[(1000000,1004096)],[]⟩),(18,⟨[0,1,5,6,7],[([5],9,Aq,1000000)],[],[(40704,1000000)],[]⟩)]
def AhJ:Lk:=⟨[],[(18,⟨[(0,.i),(1,.i),(5,.c (xo 1000000)),(6,.c x64),(7,.c x64)],[(1000000,.arr 9 false Aq)]⟩,[(0,⟨[(5,.c (xo 1004096))],[(1004096,.arr 9 false Aq)]⟩)])]⟩
def VT:Sig:=.of [Dw,.cell false (.int .u8)] [Sq4] (fun a=>Uz N a.1 a.2)
theorem Y5:Dn 398 (VT N):=Dt (Dq [] Agk) AhJ Tryz.f398 N (Dk trivial)
def Agn:List (Nat×Nrm):=[(3,⟨[3],[],[],[],[]⟩),(14,⟨[3,57,58,59],[],[],[],[]⟩)]
def AhO:Lk:=⟨[],[(14,⟨[(3,.c x64),(57,.c (xo 47360)),(58,.i),(59,.c x64)],[(47360,.arr 4 false A7)]⟩,[(0,⟨[(3,.c x64)],[]⟩)])]⟩
def pV:Sig:=.of [Jd] [Dp] (fun a=>Ab3 N a)
theorem AcF:Dn 322 (pV N):=Dt (Dq [] Agn) AhO Tryz.f322 N (Dk trivial)
def pY:Sig:=.of [] [Sq4] (fun _=>Ab6 N)
theorem AcI:Dn 379 (pY N):=Dt (Dq [] []) ⟨[],[]⟩ Tryz.f379 N (Dk trivial)
def AeE:Sig:=.of [Dp] [Dw] (fun a=>AjW N a)
theorem AhM:Dn 326 (AeE N):=Dt (Dq [] []) ⟨[],[]⟩ Tryz.f326 N (Dk trivial)
def Agi:List (Nat×Nrm):=[(3,⟨[0,5,6],[],[],[],[]⟩),(11,⟨[0,5,6],[],[],[],[]⟩),(18,⟨[0,1,5,6,7],[],[],[],[]⟩),(19,⟨[0,13,14,15,16,17,18,19,20],[],[],[],[]⟩),(34,⟨[0,5,6,8],[],[],[],[]⟩),(66,⟨[0,5,6,13,14,15,16,17,18,19,20,21],[],[],[],[]⟩)]
def AhG:Lk:=⟨[],[(18,⟨[(0,.i),(1,.i),(5,.c (xo 39424)),(6,.c (.c (.EN 34304 0 0))),(7,.c x64)],[(34304,.arr 364 false Az),(39424,.arr 340 false Az)]⟩,[(0,⟨[(0,.i),(5,.c (xo 39424)),(6,.c (.c (.EN 34304 0 0)))],[(34304,.arr 364 false Az),(39424,.arr 340 false Az)]⟩)]),(34,⟨[(0,.i),(5,.c (xo 39424)),(6,.c (.c (.EN 34304 0 0))),(8,.c x64)],[(34304,.arr 364 false Az),(39424,.arr 340 false Az)]⟩,[(2,⟨[(0,.i),(5,.c (xo 39424)),(6,.c (.c (.EN 34304 0 0)))],[(34304,.arr 364 false Az),(39424,.arr 340 false Az)]⟩)]),(66,⟨[(0,.i),(5,.c (xo 39424)),(6,.c (.c (.EN 34304 0 0))),(13,.c Bq),(14,.c Bq),(15,.c Bq),(16,.c Bq),(17,.c Bq),(18,.c Bq),(19,.c Bq),(20,.c Bq),(21,.c x64)],[(34304,.arr 364 false Az),(39424,.arr 340 false Az)]⟩,[(4,⟨[(0,.i),(13,.c Bq),(14,.c Bq),(15,.c Bq),(16,.c Bq),(17,.c Bq),(18,.c Bq),(19,.c Bq),(20,.c Bq)],[]⟩)])]⟩
def pO:Sig:=.of [AqD,Dw] [AqD] (fun a=>Ab0 N a.1 a.2)
theorem AcB:Dn 328 (pO N):=Dt (Dq [] Agi) AhG Tryz.f328 N (Dk trivial)
def AeF:Sig:=.of [Dp] [Dw] (fun a=>AjX N a)
theorem AhN:Dn 225 (AeF N):=Dt (Dq [] []) ⟨[],[]⟩ Tryz.f225 N (Dk trivial)
def yO:Sig:=.of [] [Jd] (fun _=>AeG N)
theorem AeH:Dn 158 (yO N):=Dt (Dq [] []) ⟨[],[]⟩ Tryz.f158 N (Dk trivial)
def VJ:Sig:=.of [Dp] [Dw] (fun a=>Uw N a)
theorem Yj:Dn 226 (VJ N):=Dt (Dq [] []) ⟨[],[]⟩ Tryz.f226 N (Dk trivial)
def AbD:Sig:=.of [Dp] [Dp] (fun a=>zM N a)
theorem Agw:Dn 164 (AbD N):=Dt (Dq [] []) ⟨[],[]⟩ Tryz.f164 N (Dk trivial)
def Gf:Sig:=.of [.box [(false,.bool)],Dw,Dp] [Dw] (fun a=>Ep N a.1 a.2.1 a.2.2)
theorem FT:Dn 93 (Gf N):=Dt (Dq [] []) ⟨[],[]⟩ Tryz.f93 N (Dk trivial)
def Alj:List (Nat×Nrm):=[(3,⟨[0,1,6],[],[],[],[]⟩),(22,⟨[0,1,6,21,22,23],[],[],[],[]⟩),(77,⟨[1,9],[],[],[(45568,1008192),(47616,1008192),(49664,1008192),(52480,1008192)],[]⟩)]
def Ano:Lk:=⟨[(77,⟨[(1,.i),(9,.c (xo 1008192))],[(1008192,.arr 5 false Aw)]⟩)],[(22,⟨[(0,.i),(1,.i),(6,.c x64),(21,.i),(22,.i),(23,.c x64)],[]⟩,[(0,⟨[(0,.i),(1,.i),(6,.c x64)],[]⟩)])]⟩
def Jj:Sig:=.of [Dp,Sq4] [Dw,Dp] (fun a=>FH N a.1 a.2)
theorem Hz:Dn 94 (Jj N):=Dt (Dq [(163,Ue N)] Alj) Ano Tryz.f94 N (Dk ⟨WR N,trivial⟩)
def Lr:Sig:=.of [.box [(false,.bool)]] [DJ] (fun a=>KL N a)
theorem MG:Dn 33 (Lr N):=Dt (Dq [] []) ⟨[],[]⟩ Tryz.f33 N (Dk trivial)
def Fb:Sig:=.of [H6,Dp] [Ie,DJ] (fun a=>Es N a.1 a.2)
theorem EP:Dn 57 (Fb N):=Dt (Dq [] []) ⟨[],[]⟩ Tryz.f57 N (Dk trivial)
def Eh:Sig:=.of [H6] [Dp] (fun a=>DV N a)
theorem DZ:Dn 37 (Eh N):=Dt (Dq [] []) ⟨[],[]⟩ Tryz.f37 N (Dk trivial)
def nI:List (Nat×Nrm):=[(3,⟨[],[],[],[],[]⟩),(18,⟨[0,1,12,13],[],[],[],[]⟩)]
def sJ:Lk:=⟨[],[(18,⟨[(0,.i),(1,.i),(12,.i),(13,.c x64)],[]⟩,[(0,⟨[],[]⟩)])]⟩
def Tt:Sig:=.of [Sq4,Sq4] [DJ] (fun a=>Ht N a.1 a.2)
theorem bW:Dn 38 (Tt N):=Dt (Dq [] nI) sJ Tryz.f38 N (Dk trivial)
def H9:Sig:=.of [ArQ,Dw,Dw] [DJ] (fun a=>FY N a.1 a.2.1 a.2.2)
theorem Ir:Dn 40 (H9 N):=Dt (Dq [] []) ⟨[],[]⟩ Tryz.f40 N (Dk trivial)
def Ii:Sig:=.of [H6] [Ie,Dp] (fun a=>Jp N a)
theorem HY:Dn 97 (Ii N):=Dt (Dq [] []) ⟨[],[]⟩ Tryz.f97 N (Dk trivial)
def AjO:List (Nat×Nrm):=[(3,⟨[3],[],[],[],[]⟩),(11,⟨[3,6,9],[],[],[],[]⟩),(14,⟨[3,15,16,17],[],[],[],[]⟩),(19,⟨[6],[],[(none,6,Az)],[],[]⟩),(27,⟨[12],[],[],[(51456,1032768),(1028672,1032768)],[]⟩),(49,⟨[3,6,7,8],[],[],[],[]⟩),(62,⟨[3,6,7,9,10],[],[],[],[]⟩),(82,⟨[3,6,11],[],[(none,6,Az)],[],[]⟩),(102,⟨[12,74,75,76],[],[],[(51456,1028672),(56576,1028672)],[]⟩)]
def AkV:Lk:=⟨[(49,⟨[(3,.i),(6,.c (xo 39168)),(7,.i),(8,.c x64)],[(39168,.arr 340 false Az)]⟩)],[(14,⟨[(3,.c xs),(15,.i),(16,.i),(17,.c x64)],[]⟩,[(0,⟨[(3,.c xs)],[]⟩)]),(62,⟨[(3,.i),(6,.c (xo 39168)),(7,.i),(9,.c (xo 41984)),(10,.c x64)],[(39168,.arr 340 false Az),(41984,.arr 5 false Aw)]⟩,[(2,⟨[(3,.i),(6,.c (xo 39168)),(9,.c (xo 41984))],[(39168,.arr 340 false Az),(41984,.arr 5 false Aw)]⟩)]),(82,⟨[(3,.i),(6,.c (xl Az)),(11,.c x64)],[]⟩,[(4,⟨[(6,.c (xl Az))],[]⟩)]),(102,⟨[(12,.c (xo 1028672)),(74,.i),(75,.i),(76,.c x64)],[(1028672,.arr 5 false Aw)]⟩,[(6,⟨[(12,.c (xo 1032768))],[(1032768,.arr 5 false Aw)]⟩)])]⟩
def Aby:Sig:=.of [Sq4] [Dw] (fun a=>AgV N a)
theorem Agf:Dn 224 (Aby N):=Dt (Dq [(328,pO N)] AjO) AkV Tryz.f224 N (Dk ⟨AcB N,trivial⟩)
def Ajy:List (Nat×Nrm):=[(3,⟨[5],[([5],9,Aq,1016384)],[],[(1000000,1016384)],[]⟩),(11,⟨[0,1,5,6,7,8],[([5],9,Aq,1012288)],[],[(1008192,1012288)],[]⟩),(14,⟨[0,1,5,6],[([5],9,Aq,1000000)],[],[(44288,1000000),(1012288,1000000)],[]⟩),(33,⟨[0,1,5,6,7],[([5],9,Aq,1004096)],[],[(1000000,1004096)],[]⟩),(42,⟨[0,1,5,6,7,8,27,28,29],[([5,27],9,Aq,1008192)],[],[(1004096,1008192)],[]⟩)]
def AkP:Lk:=⟨[(33,⟨[(0,.c AQ),(1,.i),(5,.c (xo 1004096)),(6,.i),(7,.c xs)],[(0,.box BF),(1004096,.arr 9 false Aq)]⟩)],[(14,⟨[(0,.c AQ),(1,.i),(5,.c (xo 1000000)),(6,.c x64)],[(0,.box BF),(1000000,.arr 9 false Aq)]⟩,[(0,⟨[(5,.c (xo 1016384))],[(0,.box BF),(1016384,.arr 9 false Aq)]⟩)]),(42,⟨[(0,.c AQ),(1,.i),(5,.c (xo 1008192)),(6,.i),(7,.i),(8,.c xb),(27,.c (xo 1008192)),(28,.i),(29,.c x64)],[(0,.box BF),(1008192,.arr 9 false Aq)]⟩,[(2,⟨[(0,.c AQ),(1,.i),(5,.c (xo 1012288)),(6,.i),(7,.i),(8,.c xb)],[(0,.box BF),(1012288,.arr 9 false Aq)]⟩)])]⟩
def Abq:Sig:=.of [Sq1,DJ] [Sq4] (fun a=>xN N a.1 a.2)
theorem AfS:Dn 159 (Abq N):=Dt (Dq [(6,Ez N),(226,VJ N)] Ajy) AkP Tryz.f159 N (Dk ⟨Ei N,Yj N,trivial⟩)
def Acw:List (Nat×Nrm):=[(3,⟨[3],[([3],288,(.str Aq),1012288)],[],[(1000000,1012288)],[]⟩),(11,⟨[0,3,4,5,6],[([3],288,(.str Aq),1008192)],[],[(1004096,1008192)],[]⟩),(14,⟨[0,3,4],[([3],288,(.str Aq),1000000)],[],[(43264,1000000),(1008192,1000000)],[]⟩),(34,⟨[0,3,4,5,6,23,24,25],[([3,23],288,(.str Aq),1004096)],[],[(1000000,1004096)],[]⟩)]
def Ael:Lk:=⟨[],[(14,⟨[(0,.c AQ),(3,.c (xo 1000000)),(4,.c x64)],[(0,.box BF),(1000000,.arr 288 false (.str Aq))]⟩,[(0,⟨[(3,.c (xo 1012288))],[(0,.box BF),(1012288,.arr 288 false (.str Aq))]⟩)]),(34,⟨[(0,.c AQ),(3,.c (xo 1004096)),(4,.i),(5,.c AV),(6,.c xb),(23,.c (xo 1004096)),(24,.i),(25,.c x64)],[(0,.box BF),(34048,.box [xs,xs]),(1004096,.arr 288 false (.str Aq))]⟩,[(2,⟨[(0,.c AQ),(3,.c (xo 1008192)),(4,.i),(5,.c AV),(6,.c xb)],[(0,.box BF),(34048,.box [xs,xs]),(1008192,.arr 288 false (.str Aq))]⟩)])]⟩
def ZB:Sig:=.of [Sq1] [AoL] (fun a=>oZ N a)
theorem xM:Dn 160 (ZB N):=Dt (Dq [(6,Ez N),(226,VJ N)] Acw) Ael Tryz.f160 N (Dk ⟨Ei N,Yj N,trivial⟩)
def Alh:List (Nat×Nrm):=[(3,⟨[0,2,5,6,7,8,9],[],[],[],[]⟩),(74,⟨[0,2,5,6,7,8,9,50,51,52],[],[],[],[]⟩),(101,⟨[0,2,5,6,7,8],[],[],[],[]⟩)]
def Ann:Lk:=⟨[(101,⟨[(0,.i),(2,.c AL),(5,.c AV),(6,.i),(7,.c x64),(8,.c x64)],[(33280,.box BM),(34048,.box BM)]⟩)],[(74,⟨[(0,.i),(2,.c AL),(5,.c AV),(6,.i),(7,.c x64),(8,.i),(9,.i),(50,.c (xo 45568)),(51,.i),(52,.c x64)],[(33280,.box BM),(34048,.box BM),(45568,.arr 5 false Aw)]⟩,[(0,⟨[(0,.i),(2,.c AL),(5,.c AV),(6,.i),(7,.c x64),(8,.i),(9,.i)],[(33280,.box BM),(34048,.box BM)]⟩)])]⟩
def Xr:Sig:=.of [Dw] [Ie,Dw,Dp] (fun a=>Ql N a)
theorem VZ:Dn 96 (Xr N):=Dt (Dq [(164,AbD N)] Alh) Ann Tryz.f96 N (Dk ⟨Agw N,trivial⟩)
def Fg:Sig:=.of [.box [(false,.bool)],Dp,Sq4] [Dw] (fun a=>E5 N a.1 a.2.1 a.2.2)
theorem EX:Dn 54 (Fg N):=Dt (Dq [(94,Jj N),(93,Gf N)] []) ⟨[],[]⟩ Tryz.f54 N (Dk ⟨Hz N,FT N,trivial⟩)
def sH:List (Nat×Nrm):=[(3,⟨[2,3],[],[],[],[]⟩),(18,⟨[2,3,15,16],[],[],[],[]⟩)]
def yP:Lk:=⟨[],[(18,⟨[(2,.c AL),(3,.c AP),(15,.i),(16,.c x64)],[(33280,.box BI),(33536,.box BI)]⟩,[(0,⟨[(2,.c AL),(3,.c AP)],[(33280,.box BI),(33536,.box BI)]⟩)])]⟩
def Vg:Sig:=.of [jI,jI] [DJ] (fun a=>Ip N a.1 a.2)
theorem iV:Dn 15 (Vg N):=Dt (Dq [(38,Tt N)] sH) yP Tryz.f15 N (Dk ⟨bW N,trivial⟩)
def tV:List (Nat×Nrm):=[(3,⟨[6],[([6],9,Aq,1004096)],[],[(1000000,1004096)],[]⟩),(18,⟨[5,6,13,14,15],[([6],9,Aq,1000000)],[],[(39168,1000000)],[]⟩)]
def Aan:Lk:=⟨[],[(18,⟨[(5,.c (xo 35072)),(6,.c (xo 1000000)),(13,.c (xo 36096)),(14,.i),(15,.c x64)],[(35072,.mp (.str Aq) A7),(36096,.arr 9 false Aq),(1000000,.arr 9 false Aq)]⟩,[(0,⟨[(6,.c (xo 1004096))],[(1004096,.arr 9 false Aq)]⟩)])]⟩
def Wi:Sig:=.of [Sq4,Sq4] [Sq4] (fun a=>JJ N a.1 a.2)
theorem jM:Dn 39 (Wi N):=Dt (Dq [(40,H9 N)] tV) Aan Tryz.f39 N (Dk ⟨Ir N,trivial⟩)
def Ey:Sig:=.of [H6,Dp] [Ie,Dp] (fun a=>EC N a.1 a.2)
theorem Em:Dn 60 (Ey N):=Dt (Dq [(97,Ii N)] []) ⟨[],[]⟩ Tryz.f60 N (Dk ⟨HY N,trivial⟩)
def Agj:List (Nat×Nrm):=[(3,⟨[],[],[],[],[]⟩),(26,⟨[0,3,4,5],[],[],[],[]⟩)]
def AhI:Lk:=⟨[],[(26,⟨[(0,.i),(3,.i),(4,.c xb),(5,.c x64)],[]⟩,[(0,⟨[],[]⟩)])]⟩
def pR:Sig:=.of [Dw] [DJ] (fun a=>bU N a)
theorem AcC:Dn 371 (pR N):=Dt (Dq [] Agj [] [] [] [37,39,40,43,54,55]) AhI Tryz.f371 N (Dk trivial)
def ZI:Sig:=.of [Dw] [DJ] (fun a=>VR N a)
theorem yB:Dn 372 (ZI N):=Dt (Dq [] []) ⟨[],[]⟩ Tryz.f372 N (Dk trivial)
def Agc:List (Nat×Nrm):=[(3,⟨[3],[],[],[],[]⟩),(14,⟨[3,8,9],[],[],[],[]⟩)]
def AhA:Lk:=⟨[],[(14,⟨[(3,.c (xo 34304)),(8,.i),(9,.c x64)],[(34304,.arr 5 false Aw)]⟩,[(0,⟨[(3,.c (xo 34304))],[(34304,.arr 5 false Aw)]⟩)])]⟩
def pJ:Sig:=.of [Dw] [Dw] (fun a=>Abw N a)
theorem Ac6:Dn 440 (pJ N):=Dt (Dq [] Agc) AhA Tryz.f440 N (Dk trivial)
def jB:Sig:=.of [Dp] [DJ] (fun a=>yU N a)
theorem AaM:Dn 205 (jB N):=Dt (Dq [] [] [] [] [] [5,8,9,12,15,16]) ⟨[],[]⟩ Tryz.f205 N (Dk trivial)
def AhD:List (Nat×Nrm):=[(3,⟨[0,6],[],[],[],[]⟩),(22,⟨[0,6,22,23,24],[],[],[],[]⟩),(77,⟨[6,10],[],[],[(43008,1008192),(46592,1008192),(49408,1008192),(51456,1008192)],[]⟩)]
def AjP:Lk:=⟨[(77,⟨[(6,.i),(10,.c (xo 1008192))],[(1008192,.arr 5 false Aw)]⟩)],[(22,⟨[(0,.i),(6,.c xs),(22,.i),(23,.i),(24,.c x64)],[]⟩,[(0,⟨[(0,.i),(6,.c xs)],[]⟩)])]⟩
def RV:Sig:=.of [Dp,Sq4] [Dw,Dp] (fun a=>RU N a.1 a.2)
theorem RX:Dn 137 (RV N):=Dt (Dq [] AhD) AjP Tryz.f137 N (Dk trivial)
def Agd:List (Nat×Nrm):=[(3,⟨[3],[([3],9,Aq,1012288)],[],[(1000000,1012288)],[]⟩),(11,⟨[3,5,6,10,11,12],[([3],9,Aq,1008192)],[],[(1004096,1008192)],[1008192]⟩),(14,⟨[3,10,11,12],[([3],9,Aq,1000000)],[],[(43008,1000000)],[]⟩),(19,⟨[7],[],[],[],[]⟩),(26,⟨[3,5,6,10,11,12],[([3],9,Aq,1004096)],[],[(1000000,1004096)],[]⟩),(50,⟨[7,42,43,44],[],[],[],[]⟩)]
def AhB:Lk:=⟨[],[(14,⟨[(3,.c (xo 1000000)),(10,.i),(11,.i),(12,.c x64)],[(1000000,.arr 9 false Aq)]⟩,[(0,⟨[(3,.c (xo 1012288))],[(1012288,.arr 9 false Aq)]⟩)]),(26,⟨[(3,.c (xo 1004096)),(5,.i),(6,.c x64),(10,.i),(11,.i),(12,.i)],[(1004096,.arr 9 false Aq)]⟩,[(2,⟨[(3,.c (xo 1008192)),(5,.i),(6,.c x64),(10,.i),(11,.i),(12,.i)],[(1008192,.arr 9 true Aq)]⟩)]),(50,⟨[(7,.c xs),(42,.c (xo 1012288)),(43,.i),(44,.c x64)],[(1012288,.arr 9 false Aq)]⟩,[(4,⟨[(7,.c xs)],[]⟩)])]⟩
def pK:Sig:=.of [Sq4] [Dw] (fun a=>Abx N a)
theorem Ac7:Dn 133 (pK N):=Dt (Dq [] Agd) AhB Tryz.f133 N (Dk trivial)
def iK:Sig:=.of [Dp] [Dp] (fun a=>Y2 N a)
theorem AaE:Dn 206 (iK N):=Dt (Dq [] []) ⟨[],[]⟩ Tryz.f206 N (Dk trivial)
def y9:Sig:=.of [Dp,Dp] [Dp] (fun a=>mP N a.1 a.2)
theorem Ae9:Dn 207 (y9 N):=Dt (Dq [] [] [] [] [] [7,11,12,16,20,21]) ⟨[],[]⟩ Tryz.f207 N (Dk trivial)
def Yx (N n:Nat):Sig:=.of [.cell false (.int .i64)] [.cell false .str] (fun a=>Va N n a)
theorem ZE (N:Nat): ∀ n,Spec Tryz.prog 43 (Yx N n)
  | 0=>zB (C:=ctx Tryz.prog [] []) (fn:=Tryz.f43) (Dk (gs:=[]) trivial) (by kernel_rfl) (by kernel_rfl)
  | n+1=>I5 (C:=ctx Tryz.prog ((43,Yx N n)::[]) []) (L:=⟨[],[]⟩) (fn:=Tryz.f43) (N:=N) (Dk ⟨ZE N n,trivial⟩)
def bM:Sig:=Yx N N
theorem iG:Spec Tryz.prog 43 (bM N):=ZE N N
def rU:List (Nat×Nrm):=[(3,⟨[4],[],[],[],[]⟩),(11,⟨[4],[],[(none,4,Aw)],[],[]⟩),(18,⟨[3,4,5],[([4],5,Aw,1000000)],[],[(37632,1000000)],[]⟩),(30,⟨[4],[],[(none,4,Aw)],[],[]⟩)]
def y7:Lk:=⟨[],[(18,⟨[(3,.i),(4,.c (xo 1000000)),(5,.c x64)],[(1000000,.arr 5 false Aw)]⟩,[(0,⟨[(4,.c (xo 1000000))],[(1000000,.arr 5 false Aw)]⟩)]),(30,⟨[(4,.c (xl Aw))],[]⟩,[(2,⟨[(4,.c (xl Aw))],[]⟩)])]⟩
def Vb:Sig:=.of [Dp] [Dw] (fun a=>Yz N a)
theorem iJ:Dn 145 (Vb N):=Dt (Dq [] rU [] [] [] [23,28,33,34,39,44,45,46]) y7 Tryz.f145 N (Dk trivial)
def AhP:List (Nat×Nrm):=[(3,⟨[4],[],[],[],[]⟩),(10,⟨[1,4,8,9,10],[],[],[],[]⟩)]
def AjY:Lk:=⟨[],[(10,⟨[(1,.i),(4,.c AU),(8,.i),(9,.i),(10,.c x64)],[(33792,.box [AA,AB,AA])]⟩,[(0,⟨[(4,.c AU)],[(33792,.box [AA,AB,AA])]⟩)])]⟩
def YD:Sig:=.of [.cell false (.sl 220 Tq4),Dw] [Sq9,DJ] (fun a=>nG N a.1 a.2)
theorem ZQ:Dn 324 (YD N):=Dt (Dq [] AhP) AjY Tryz.f324 N (Dk trivial)
def AhC:List (Nat×Nrm):=[(3,⟨[0,2,5,6,8],[],[],[],[]⟩),(70,⟨[0,2,5,6,8,9],[],[],[],[]⟩),(97,⟨[0,2,5,6,7],[],[],[],[]⟩)]
def AjN:Lk:=⟨[(97,⟨[(0,.i),(2,.c AL),(5,.c AV),(6,.c x64),(7,.c x64)],[(33280,.box BM),(34048,.box BM)]⟩)],[(70,⟨[(0,.i),(2,.c AL),(5,.c AV),(6,.c x64),(8,.i),(9,.c x64)],[(33280,.box BM),(34048,.box BM)]⟩,[(0,⟨[(0,.i),(2,.c AL),(5,.c AV),(6,.c x64),(8,.i)],[(33280,.box BM),(34048,.box BM)]⟩)])]⟩
def Y0:Sig:=.of [Dw] [Ie,Dw,Dp] (fun a=>mJ N a)
theorem ZG:Dn 214 (Y0 N):=Dt (Dq [] AhC) AjN Tryz.f214 N (Dk trivial)
def NC:Sig:=.of [DJ] [Dw] (fun a=>Qg N a)
theorem Qy:Dn 211 (NC N):=Dt (Dq [] []) ⟨[],[]⟩ Tryz.f211 N (Dk trivial)
def AaC:List (Nat×Nrm):=[(3,⟨[0,4],[],[],[],[]⟩),(11,⟨[6],[],[],[],[]⟩),(22,⟨[0,4,5],[],[],[],[]⟩),(50,⟨[0,4,6,7],[],[],[],[]⟩)]
def Ac8:Lk:=⟨[],[(22,⟨[(0,.i),(4,.c x64),(5,.c x64)],[]⟩,[(0,⟨[(0,.i),(4,.c x64)],[]⟩)]),(50,⟨[(0,.i),(4,.i),(6,.c (xo 40192)),(7,.c x64)],[(40192,.arr 5 false Aw)]⟩,[(2,⟨[(6,.c (xo 40192))],[(40192,.arr 5 false Aw)]⟩)])]⟩
def Yy:Sig:=.of [Dp] [Dw,Dp] (fun a=>iI N a)
theorem rQ:Dn 212 (Yy N):=Dt (Dq [] AaC) Ac8 Tryz.f212 N (Dk trivial)
def Qi:Sig:=.of [Ie] [Dp] (fun a=>Ud N a)
theorem Tm:Dn 220 (Qi N):=Dt (Dq [] [] [] [] [] [6,10,11,16,17,22]) ⟨[],[]⟩ Tryz.f220 N (Dk trivial)
def yV:Sig:=.of [Dp] [DJ] (fun a=>JW N a)
theorem AeI:Dn 318 (yV N):=Dt (Dq [] []) ⟨[],[]⟩ Tryz.f318 N (Dk trivial)
def Io:Sig:=.of [Dw] [DJ] (fun a=>GM N a)
theorem Ib:Dn 302 (Io N):=Dt (Dq [(308,Y1 N)] []) ⟨[],[]⟩ Tryz.f302 N (Dk ⟨ZH N,trivial⟩)
def y8:List (Nat×Nrm):=[(7,⟨[],[],[],[],[]⟩),(25,⟨[0,1,11],[],[],[],[]⟩),(30,⟨[0,1,5],[],[],[],[]⟩)]
def AaD:Lk:=⟨[(25,⟨[(0,.i),(1,.i),(11,.c xb)],[]⟩)],[(30,⟨[(0,.i),(1,.i),(5,.c x64)],[]⟩,[(1,⟨[],[]⟩)])]⟩
def WE:Sig:=.of [Dp,Dw] [DJ] (fun a=>RS N a.1 a.2)
theorem mM:Dn 303 (WE N):=Dt (Dq [(364,yA N),(365,PE N),(366,VO N)] y8 [] [] [] [22,27,32,33,34,37,43,44,50,51]) AaD Tryz.f303 N (Dk ⟨AeB N,Qe N,Yv N,trivial⟩)
def AjT:List (Nat×Nrm):=[(3,⟨[],[],[],[],[]⟩),(11,⟨[10,11,12],[],[],[],[]⟩),(18,⟨[10,11,12],[],[],[],[]⟩),(38,⟨[4,5,10,11,12],[],[],[],[]⟩)]
def AkX:Lk:=⟨[],[(18,⟨[(10,.i),(11,.i),(12,.c x64)],[]⟩,[(0,⟨[],[]⟩)]),(38,⟨[(4,.i),(5,.c x64),(10,.i),(11,.i),(12,.i)],[]⟩,[(2,⟨[(10,.i),(11,.i),(12,.i)],[]⟩)])]⟩
def Ph:Sig:=.of [Dw] [DJ] (fun a=>Hy N a)
theorem Oh:Dn 396 (Ph N):=Dt (Dq [(398,VT N),(365,PE N)] AjT [] [] [] [19,23,24,28,29,36]) AkX Tryz.f396 N (Dk ⟨Y5 N,Qe N,trivial⟩)
def Ah9:List (Nat×Nrm):=[(3,⟨[3],[([3],5,Aw,1004096)],[],[(1000000,1004096)],[]⟩),(18,⟨[0,3,4],[([3],5,Aw,1000000)],[],[(41984,1000000)],[]⟩)]
def AjM:Lk:=⟨[],[(18,⟨[(0,.i),(3,.c (xo 1000000)),(4,.c x64)],[(1000000,.arr 5 false Aw)]⟩,[(0,⟨[(3,.c (xo 1004096))],[(1004096,.arr 5 false Aw)]⟩)])]⟩
def xZ:Sig:=.of [Dw] [Dw] (fun a=>mF N a)
theorem Ae8:Dn 425 (xZ N):=Dt (Dq [(440,pJ N)] Ah9) AjM Tryz.f425 N (Dk ⟨Ac6 N,trivial⟩)
def EL:Sig:=.of [Dp,Sq4] [Dw] (fun a=>DW N a.1 a.2)
theorem E8:Dn 132 (EL N):=Dt (Dq [(137,RV N)] []) ⟨[],[]⟩ Tryz.f132 N (Dk ⟨RX N,trivial⟩)
def xY:List (Nat×Nrm):=[(3,⟨[6],[([6],5,Aw,1020480)],[],[(1000000,1020480)],[]⟩),(11,⟨[6,9,30,31,32],[([6],5,Aw,1008192)],[],[(1004112,1008192)],[]⟩),(19,⟨[6,9,30,31,32],[([6],5,Aw,1016384)],[],[(1012288,1016384)],[]⟩),(30,⟨[6,30,31,32],[([6],5,Aw,1000000)],[],[(48384,1000000)],[]⟩),(42,⟨[6,8,9,30,31,32],[([9],5,Aw,1004096),([6],5,Aw,1004112)],[],[(43264,1004096),(1000000,1004112)],[]⟩),(58,⟨[6,9,10,30,31,32],[([6],5,Aw,1012288)],[],[(1008192,1012288)],[]⟩)]
def AaB:Lk:=⟨[],[(30,⟨[(6,.c (xo 1000000)),(30,.c (xo 40192)),(31,.i),(32,.c x64)],[(40192,.arr 3 false Au),(1000000,.arr 5 false Aw)]⟩,[(0,⟨[(6,.c (xo 1020480))],[(1020480,.arr 5 false Aw)]⟩)]),(42,⟨[(6,.c (xo 1004112)),(8,.c x64),(9,.c (xo 1004096)),(30,.c (xo 40192)),(31,.i),(32,.i)],[(40192,.arr 3 false Au),(1004096,.arr 5 false Aw),(1004112,.arr 5 false Aw)]⟩,[(2,⟨[(6,.c (xo 1008192)),(9,.c (xo 43264)),(30,.c (xo 40192)),(31,.i),(32,.i)],[(40192,.arr 3 false Au),(43264,.arr 5 false Aw),(1008192,.arr 5 false Aw)]⟩)]),(58,⟨[(6,.c (xo 1012288)),(9,.c (xo 43264)),(10,.c x64),(30,.c (xo 40192)),(31,.i),(32,.i)],[(40192,.arr 3 false Au),(43264,.arr 5 false Aw),(1012288,.arr 5 false Aw)]⟩,[(4,⟨[(6,.c (xo 1016384)),(9,.c (xo 43264)),(30,.c (xo 40192)),(31,.i),(32,.i)],[(40192,.arr 3 false Au),(43264,.arr 5 false Aw),(1016384,.arr 5 false Aw)]⟩)])]⟩
def WB:Sig:=.of [Dw] [Dw,Dp] (fun a=>ZF N a)
theorem mD:Dn 213 (WB N):=Dt (Dq [(308,Y1 N)] xY) AaB Tryz.f213 N (Dk ⟨ZH N,trivial⟩)
def Aga:List (Nat×Nrm):=[(3,⟨[0,2,4,5],[],[],[],[]⟩),(11,⟨[0,2,4,5,6],[],[],[],[]⟩),(22,⟨[0,2,4,5],[],[],[],[]⟩),(38,⟨[0,2,4,5,6],[],[],[],[]⟩)]
def Ah8:Lk:=⟨[],[(22,⟨[(0,.i),(2,.c AL),(4,.i),(5,.c x64)],[(33280,.box BO)]⟩,[(0,⟨[(0,.i),(2,.c AL),(4,.i),(5,.c x64)],[(33280,.box BO)]⟩)]),(38,⟨[(0,.i),(2,.c AL),(4,.c x64),(5,.i),(6,.c x64)],[(33280,.box BO)]⟩,[(2,⟨[(0,.i),(2,.c AL),(4,.c x64),(5,.i),(6,.c x64)],[(33280,.box BO)]⟩)])]⟩
def pI:Sig:=.of [Dp] [Sq8,Dp] (fun a=>Abv N a)
theorem Ac5:Dn 135 (pI N):=Dt (Dq [(206,iK N),(207,y9 N)] Aga) Ah8 Tryz.f135 N (Dk ⟨AaE N,Ae9 N,trivial⟩)
def AjR:List (Nat×Nrm):=[(3,⟨[5],[],[],[],[]⟩),(10,⟨[1,5],[],[],[],[]⟩)]
def AkW:Lk:=⟨[],[(10,⟨[(1,.i),(5,.c xs)],[]⟩,[(0,⟨[(5,.c xs)],[]⟩)])]⟩
def Abz:Sig:=.of [Dp,Dp] [Dw] (fun a=>Lc N a.1 a.2)
theorem Agh:Dn 136 (Abz N):=Dt (Dq [(43,bM N)] AjR) AkW Tryz.f136 N (Dk ⟨iG N,trivial⟩)
def I4:Sig:=.of [Dp,Sq4] [Dw,Dp] (fun a=>GN N a.1 a.2)
theorem GR:Dn 74 (I4 N):=Dt (Dq [(137,RV N)] []) ⟨[],[]⟩ Tryz.f74 N (Dk ⟨RX N,trivial⟩)
def bP:Sig:=.of [Dw] [Ie,Dp] (fun a=>y5 N a)
theorem iH:Dn 147 (bP N):=Dt (Dq [(214,Y0 N)] []) ⟨[],[]⟩ Tryz.f147 N (Dk ⟨ZG N,trivial⟩)
def Agg:List (Nat×Nrm):=[(3,⟨[],[],[],[],[]⟩),(18,⟨[1,5],[],[],[],[]⟩)]
def AhF:Lk:=⟨[],[(18,⟨[(1,.i),(5,.c xs)],[]⟩,[(0,⟨[],[]⟩)])]⟩
def Ub (N n:Nat):Sig:=.of [Ie,.cell false (.int .i64)] [.cell false (.int .i64)] (fun a=>bQ N n a.1 a.2)
theorem WG (N:Nat): ∀ n,Spec Tryz.prog 380 (Ub N n)
  | 0=>zB (C:=ctx Tryz.prog [] []) (fn:=Tryz.f380) (Dk (gs:=[]) trivial) (by kernel_rfl) (by kernel_rfl)
  | n+1=>I5 (C:=ctx Tryz.prog ((380,Ub N n)::[(214,Y0 N)]) Agg) (L:=AhF) (fn:=Tryz.f380) (N:=N) (Dk ⟨WG N n,⟨ZG N,trivial⟩⟩)
def pM:Sig:=Ub N N
theorem AcA:Spec Tryz.prog 380 (pM N):=WG N N
def Aa9:List (Nat×Nrm):=[(17,⟨[0,2,3],[],[],[],[]⟩)]
def Acs:Lk:=⟨[(17,⟨[(0,.i),(2,.c AL),(3,.c xs)],[(33280,.box BP),(33281,.D5 120 false Ar)]⟩)],[]⟩
def L8:Sig:=.of [Dp] [Sq2] (fun a=>Jq N a)
theorem MK:Dn 22 (L8 N):=Dt (Dq [(43,bM N)] Aa9) Acs Tryz.f22 N (Dk ⟨iG N,trivial⟩)
def bI:Sig:=.of [Sq1] [Dp] (fun a=>Nu N a)
theorem gW:Dn 84 (bI N):=Dt (Dq [(6,Ez N)] []) ⟨[],[]⟩ Tryz.f84 N (Dk ⟨Ei N,trivial⟩)
def Yk:Sig:=.of [Sq1] [Sq7] (fun a=>gX N a)
theorem rP:Dn 156 (Yk N):=Dt (Dq [(6,Ez N)] []) ⟨[],[]⟩ Tryz.f156 N (Dk ⟨Ei N,trivial⟩)
def Ago:List (Nat×Nrm):=[(3,⟨[],[],[],[],[]⟩),(10,⟨[0,5,6,7],[],[],[],[]⟩)]
def AhQ:Lk:=⟨[],[(10,⟨[(0,.i),(5,.i),(6,.i),(7,.c x64)],[]⟩,[(0,⟨[],[]⟩)])]⟩
def pW:Sig:=.of [Dw] [DJ] (fun a=>Ab4 N a)
theorem AcG:Dn 323 (pW N):=Dt (Dq [(379,pY N)] Ago) AhQ Tryz.f323 N (Dk ⟨AcI N,trivial⟩)
def Ab7:Sig:=.of [Ie] [Dw] (fun a=>AgW N a)
theorem Agq:Dn 222 (Ab7 N):=Dt (Dq [(326,AeE N)] []) ⟨[],[]⟩ Tryz.f222 N (Dk ⟨AhM N,trivial⟩)
def AfV:List (Nat×Nrm):=[(3,⟨[3],[([3],3,Au,1016384)],[],[(1000000,1016384)],[]⟩),(7,⟨[0,3,4],[],[],[],[]⟩),(11,⟨[],[],[],[],[]⟩),(14,⟨[0,3,4],[([3],3,Au,1000000)],[],[(42240,1000000)],[]⟩),(30,⟨[0,3,4,5],[([3],3,Au,1004096)],[],[(1000000,1004096)],[]⟩)]
def Ah2:Lk:=⟨[],[(14,⟨[(0,.i),(3,.c (xo 1000000)),(4,.c x64)],[(1000000,.arr 3 false Au)]⟩,[(0,⟨[(3,.c (xo 1016384))],[(1016384,.arr 3 false Au)]⟩)]),(30,⟨[(0,.i),(3,.c (xo 1004096)),(4,.c x64),(5,.c x64)],[(1004096,.arr 3 false Au)]⟩,[(1,⟨[(0,.i),(3,.c (xo 42240)),(4,.c x64)],[(42240,.arr 3 false Au)]⟩),(2,⟨[],[]⟩)])]⟩
def pG:Sig:=.of [Dw] [Sq0] (fun a=>Abt N a)
theorem Ac0:Dn 237 (pG N):=Dt (Dq [] AfV) Ah2 Tryz.f237 N (Dk trivial)
def Aez:List (Nat×Nrm):=[(3,⟨[4],[],[],[],[]⟩),(30,⟨[0,4,42,43],[],[],[],[]⟩)]
def AfX:Lk:=⟨[],[(30,⟨[(0,.i),(4,.c x64),(42,.i),(43,.c x64)],[]⟩,[(0,⟨[(4,.c x64)],[]⟩)])]⟩
def Js:Sig:=.of [Dw] [Dp,Dp] (fun a=>KQ N a)
theorem IZ:Dn 165 (Js N):=Dt (Dq [] Aez [] [] [] [8,12,16,20,21,25,29,30,31,32]) AfX Tryz.f165 N (Dk trivial)
def AmQ:List (Nat×Nrm):=[(3,⟨[3],[],[],[],[]⟩),(22,⟨[0,3,4],[],[],[],[]⟩)]
def Aoy:Lk:=⟨[],[(22,⟨[(0,.i),(3,.c x64),(4,.c x64)],[]⟩,[(0,⟨[(3,.c x64)],[]⟩)])]⟩
def AgP:Sig:=.of [Dw] [Dp] (fun a=>Al6 N a)
theorem AjA:Dn 358 (AgP N):=Dt (Dq [] AmQ [] [] [] [7,11,12,16,20,21]) Aoy Tryz.f358 N (Dk trivial)
def Aer:Sig:=.of [Dp,Dp] [DJ] (fun a=>AjC N a.1 a.2)
theorem Ah3:Dn 359 (Aer N):=Dt (Dq [] []) ⟨[],[]⟩ Tryz.f359 N (Dk trivial)
def qF:Sig:=.of [.cell false (.int .u8)] [DJ] (fun a=>AbB N a)
theorem AcP:Dn 335 (qF N):=Dt (Dq [] [] [] [] [] [5,8,9,12,15,16,17,20,23,24]) ⟨[],[]⟩ Tryz.f335 N (Dk trivial)
def Agu:Sig:=.of [.cell false (.int .u8)] [DJ] (fun a=>YL N a)
theorem AaQ:Dn 336 (Agu N):=Dt (Dq [] []) ⟨[],[]⟩ Tryz.f336 N (Dk trivial)
def AcQ:List (Nat×Nrm):=[(3,⟨[],[],[],[],[]⟩),(10,⟨[0,3],[],[],[],[]⟩)]
def AeR:Lk:=⟨[],[(10,⟨[(0,.i),(3,.c x64)],[]⟩,[(0,⟨[],[]⟩)])]⟩
def ZU:Sig:=.of [.cell false (.sl 134 Tq5)] [DJ] (fun a=>qG N a)
theorem zL:Dn 280 (ZU N):=Dt (Dq [] AcQ) AeR Tryz.f280 N (Dk trivial)
def Afy:List (Nat×Nrm):=[(3,⟨[3],[],[],[],[]⟩),(14,⟨[3,7,8,9],[],[],[],[]⟩)]
def Ahl:Lk:=⟨[],[(14,⟨[(3,.c x64),(7,.c (xo 34560)),(8,.i),(9,.c x64)],[(34560,.arr 5 false Aw)]⟩,[(0,⟨[(3,.c x64)],[]⟩)])]⟩
def VA:Sig:=.of [Dw] [Dp] (fun a=>Kt N a)
theorem XQ:Dn 282 (VA N):=Dt (Dq [] Afy) Ahl Tryz.f282 N (Dk trivial)
def Ad1:Sig:=.of [Dp] [Dp] (fun a=>V7 N a)
theorem vO:Dn 361 (Ad1 N):=Dt (Dq [] []) ⟨[],[]⟩ Tryz.f361 N (Dk trivial)
def AaZ:Sig:=.of [Dp] [DJ] (fun a=>vP N a)
theorem Afx:Dn 362 (AaZ N):=Dt (Dq [] []) ⟨[],[]⟩ Tryz.f362 N (Dk trivial)
def xX:Sig:=.of [Dw,Dp] [DJ] (fun a=>lW N a.1 a.2)
theorem Ae2:Dn 173 (xX N):=Dt (Dq [] []) ⟨[],[]⟩ Tryz.f173 N (Dk trivial)
def TZ:Sig:=.of [Ie] [Dp] (fun a=>Yr N a)
theorem W9:Dn 110 (TZ N):=Dt (Dq [] [] [] [] [] [6,10,11,16,17,22]) ⟨[],[]⟩ Tryz.f110 N (Dk trivial)
def TB:Sig:=.of [] [ArS] (fun _=>X6 N)
theorem Wj:Dn 103 (TB N):=Dt (Dq [] []) ⟨[],[]⟩ Tryz.f103 N (Dk trivial)
def Ua:Sig:=.of [Dw] [DJ,Dp] (fun a=>Yu N a)
theorem WA:Dn 233 (Ua N):=Dt (Dq [] []) ⟨[],[]⟩ Tryz.f233 N (Dk trivial)
def AiS:List (Nat×Nrm):=[(3,⟨[3],[],[],[],[]⟩),(14,⟨[3,9,10,11],[],[],[],[]⟩)]
def Ak7:Lk:=⟨[],[(14,⟨[(3,.c (xo 34816)),(9,.i),(10,.i),(11,.c x64)],[(34816,.mp Aq Au)]⟩,[(0,⟨[(3,.c (xo 34816))],[(34816,.mp Aq Au)]⟩)])]⟩
def Abc:Sig:=.of [.cell false (.sl 220 Tq4)] [ArT] (fun a=>AgD N a)
theorem AfA:Dn 234 (Abc N):=Dt (Dq [] AiS) Ak7 Tryz.f234 N (Dk trivial)
def AdL:Sig:=.of [Dp] [Dp] (fun a=>Ajd N a)
theorem Ahr:Dn 149 (AdL N):=Dt (Dq [] []) ⟨[],[]⟩ Tryz.f149 N (Dk trivial)
def VH:Sig:=.of [.cell false (.int .u8)] [DJ] (fun a=>bC N a)
theorem Yf:Dn 312 (VH N):=Dt (Dq [] [] [] [] [] [5,8,9,12,15,16]) ⟨[],[]⟩ Tryz.f312 N (Dk trivial)
def Ye:Sig:=.of [.cell false (.int .u8)] [DJ] (fun a=>Xf N a)
theorem Z7:Dn 313 (Ye N):=Dt (Dq [] []) ⟨[],[]⟩ Tryz.f313 N (Dk trivial)
def oP:Sig:=.of [Dw] [Dw,Dw] (fun a=>Abj N a)
theorem Acn:Dn 392 (oP N):=Dt (Dq [] []) ⟨[],[]⟩ Tryz.f392 N (Dk trivial)
def AdP:Sig:=.of [Dw,Dp] [DJ] (fun a=>kY N a.1 a.2)
theorem Aht:Dn 393 (AdP N):=Dt (Dq [] []) ⟨[],[]⟩ Tryz.f393 N (Dk trivial)
def gB:Sig:=.of [Dw] [DJ] (fun a=>Yc N a)
theorem Aa6:Dn 357 (gB N):=Dt (Dq [] []) ⟨[],[]⟩ Tryz.f357 N (Dk trivial)
def eP:Sig:=.of [Dp] [DJ] (fun a=>I9 N a)
theorem Aat:Dn 175 (eP N):=Dt (Dq [] []) ⟨[],[]⟩ Tryz.f175 N (Dk trivial)
def TQ:Sig:=.of [] [.cell false (.sl 260 Tq7)] (fun _=>XH N)
theorem Wn:Dn 180 (TQ N):=Dt (Dq [] []) ⟨[],[]⟩ Tryz.f180 N (Dk trivial)
def AbR:Sig:=.of [Jd] [DJ] (fun a=>TE N a)
theorem qR:Dn 241 (AbR N):=Dt (Dq [] []) ⟨[],[]⟩ Tryz.f241 N (Dk trivial)
def Ah0:List (Nat×Nrm):=[(3,⟨[7],[([7],9,Aq,1004096)],[],[(1000000,1004096)],[]⟩),(34,⟨[7,36,37,38],[([7],9,Aq,1000000)],[],[(45056,1000000)],[]⟩)]
def Aj8:Lk:=⟨[],[(34,⟨[(7,.c (xo 1000000)),(36,.c (xo 41728)),(37,.i),(38,.c x64)],[(41728,.arr 3 false Au),(1000000,.arr 9 false Aq)]⟩,[(0,⟨[(7,.c (xo 1004096))],[(1004096,.arr 9 false Aq)]⟩)])]⟩
def Nz:Sig:=.of [Dw] [Dw,Dp] (fun a=>Ru N a)
theorem MS:Dn 172 (Nz N):=Dt (Dq [(237,pG N),(238,jD N),(163,Ue N)] Ah0) Aj8 Tryz.f172 N (Dk ⟨Ac0 N,AaN N,WR N,trivial⟩)
def AkS:List (Nat×Nrm):=[(3,⟨[4],[([4],3,Au,1004096)],[],[(1000000,1004096)],[]⟩),(26,⟨[4,18,19,20],[([4],3,Au,1000000)],[],[(40704,1000000)],[]⟩)]
def AmR:Lk:=⟨[],[(26,⟨[(4,.c (xo 1000000)),(18,.i),(19,.i),(20,.c x64)],[(1000000,.arr 3 false Au)]⟩,[(0,⟨[(4,.c (xo 1004096))],[(1004096,.arr 3 false Au)]⟩)])]⟩
def lU:Sig:=.of [Dw] [ArR] (fun a=>Acz N a)
theorem pF:Dn 293 (lU N):=Dt (Dq [(315,MW N),(358,AgP N),(359,Aer N)] AkS) AmR Tryz.f293 N (Dk ⟨Vq N,AjA N,Ah3 N,trivial⟩)
def Agt:Sig:=.of [.cell false (.int .u8)] [DJ] (fun a=>YK N a)
theorem AaP:Dn 334 (Agt N):=Dt (Dq [(335,qF N),(314,MO N)] []) ⟨[],[]⟩ Tryz.f334 N (Dk ⟨AcP N,Pq N,trivial⟩)
def vV (N n:Nat):Sig:=.of [.cell false (.int .i64)] [.cell false (.int .i64)] (Af0 N n)
theorem Ad5:Px Tryz.prog (vV N):=TT (Dv:=[.cell false (.int .i64)]) (DI:=[.cell false (.int .i64)]) (l:=[(361,fun a=>V7 N a)]) ⟨vO N,trivial⟩
def V9:Sig:=.of [Dp,Dp] [Dp] (fun a=>LW N a.1 a.2)
theorem XP:Dn 297 (V9 N):=Dt (Dq [(362,AaZ N)] []) ⟨[],[]⟩ Tryz.f297 N (Dk ⟨Afx N,trivial⟩)
def vS:Sig:=.of [Dp,Dw] [Sq8] (fun a=>Ad2 N a.1 a.2)
theorem Ad3:Dn 284 (vS N):=Dt (Dq [(282,VA N)] []) ⟨[],[]⟩ Tryz.f284 N (Dk ⟨XQ N,trivial⟩)
def OZ:Sig:=.of [Dw] [Dw,Dp,Dp] (fun a=>UY N a)
theorem Og:Dn 107 (OZ N):=Dt (Dq [(173,xX N)] []) ⟨[],[]⟩ Tryz.f107 N (Dk ⟨Ae2 N,trivial⟩)
def Ahv:List (Nat×Nrm):=[(3,⟨[],[],[],[],[]⟩),(18,⟨[32,33,34],[],[],[],[]⟩)]
def Ajj:Lk:=⟨[],[(18,⟨[(32,.c (xo 40960)),(33,.i),(34,.c x64)],[(40960,.arr 5 false Aw)]⟩,[(0,⟨[],[]⟩)])]⟩
def wV:Sig:=.of [Dw] [DJ] (fun a=>kZ N a)
theorem AdS:Dn 217 (wV N):=Dt (Dq [(311,NI N),(312,VH N),(313,Ye N),(314,MO N)] Ahv [] [] [] [9,13,14,18,19,26,27,30]) Ajj Tryz.f217 N (Dk ⟨Q8 N,Yf N,Z7 N,Pq N,trivial⟩)
def JZ:Sig:=.of [Dw] [Ie,Dp] (fun a=>KZ N a)
theorem IK:Dn 95 (JZ N):=Dt (Dq [(96,Xr N)] []) ⟨[],[]⟩ Tryz.f95 N (Dk ⟨VZ N,trivial⟩)
def AhY:List (Nat×Nrm):=[(3,⟨[],[],[],[],[]⟩),(18,⟨[1,5],[],[],[],[]⟩)]
def Akl:Lk:=⟨[],[(18,⟨[(1,.i),(5,.c xs)],[]⟩,[(0,⟨[],[]⟩)])]⟩
def We (N n:Nat):Sig:=.of [Ie,.cell false (.int .i64)] [.cell false (.int .i64)] (fun a=>LJ N n a.1 a.2)
theorem YN (N:Nat): ∀ n,Spec Tryz.prog 162 (We N n)
  | 0=>zB (C:=ctx Tryz.prog [] []) (fn:=Tryz.f162) (Dk (gs:=[]) trivial) (by kernel_rfl) (by kernel_rfl)
  | n+1=>I5 (C:=ctx Tryz.prog ((162,We N n)::[(96,Xr N)]) AhY) (L:=Akl) (fn:=Tryz.f162) (N:=N) (Dk ⟨YN N n,⟨VZ N,trivial⟩⟩)
def zN:Sig:=We N N
theorem AeS:Spec Tryz.prog 162 (zN N):=YN N N
def G5:Sig:=.of [.box [(false,.bool)],Sq4] [Dw] (fun a=>EF N a.1 a.2)
theorem Gq:Dn 31 (G5 N):=Dt (Dq [(54,Fg N)] []) ⟨[],[]⟩ Tryz.f31 N (Dk ⟨EX N,trivial⟩)
def Afe:List (Nat×Nrm):=[(3,⟨[],[],[],[],[]⟩),(10,⟨[0,1,2,9,10,11],[],[],[],[]⟩)]
def Ahg:Lk:=⟨[],[(10,⟨[(0,.c AQ),(1,.i),(2,.i),(9,.i),(10,.i),(11,.c x64)],[(0,.box [xb])]⟩,[(0,⟨[],[(0,.box [xb])]⟩)])]⟩
def o6:Sig:=.of [.box [(false,.bool)],Dp,Sq4] [Dw] (fun a=>EY N a.1 a.2.1 a.2.2)
theorem AbM:Dn 32 (o6 N):=Dt (Dq [(54,Fg N)] Afe) Ahg Tryz.f32 N (Dk ⟨EX N,trivial⟩)
def Alg:List (Nat×Nrm):=[(3,⟨[4],[([4],134,Tq5,1004096)],[],[(1000000,1004096)],[]⟩),(10,⟨[0,4],[([4],134,Tq5,1000000)],[],[(38400,1000000)],[]⟩)]
def Anm:Lk:=⟨[],[(10,⟨[(0,.c xs),(4,.c (xo 1000000))],[(1000000,.arr 134 false Tq5)]⟩,[(0,⟨[(4,.c (xo 1004096))],[(1004096,.arr 134 false Tq5)]⟩)])]⟩
def FV:Sig:=.of [Dw] [.cell false (.sl 134 Tq5),Dp] (fun a=>Gh N a)
theorem Fz:Dn 58 (FV N):=Dt (Dq [(96,Xr N)] Alg) Anm Tryz.f58 N (Dk ⟨VZ N,trivial⟩)
def o9:Sig:=.of [H6] [Dp,Dp] (fun a=>AaU N a)
theorem AbO:Dn 99 (o9 N):=Dt (Dq [(60,Ey N),(165,Js N)] []) ⟨[],[]⟩ Tryz.f99 N (Dk ⟨Em N,IZ N,trivial⟩)
def Kv:Sig:=.of [Dw] [DJ] (fun a=>JM N a)
theorem Jr:Dn 235 (Kv N):=Dt (Dq [(293,lU N)] []) ⟨[],[]⟩ Tryz.f235 N (Dk ⟨pF N,trivial⟩)
def AgC (N n:Nat):Sig:=.of [.cell false (.int .u8)] [.cell false .bool] (Al3 N n)
theorem Ami:Px Tryz.prog (AgC N):=TT (Dv:=[.cell false (.int .u8)]) (DI:=[.cell false .bool]) (l:=[(334,fun a=>YK N a),(336,fun a=>YL N a)]) ⟨AaP N,AaQ N,trivial⟩
def Y7:List (Nat×Nrm):=[(3,⟨[],[],[],[],[]⟩),(10,⟨[0,6,7,8],[],[],[],[]⟩),(11,⟨[0,6,7,8],[],[],[],[]⟩),(46,⟨[0,3,4,5,6,7,8],[],[],[],[]⟩)]
def Zc:Lk:=⟨[],[(10,⟨[(0,.i),(6,.i),(7,.i),(8,.c x64)],[]⟩,[(0,⟨[],[]⟩)]),(46,⟨[(0,.i),(3,.i),(4,.c AU),(5,.c x64),(6,.i),(7,.i),(8,.i)],[(33792,.box [xs,x64,xs])]⟩,[(2,⟨[(0,.i),(6,.i),(7,.i),(8,.i)],[]⟩)])]⟩
def Ox:Sig:=.of [.cell false (.sl 119 Tq0)] [Dp] (fun a=>Qz N a)
theorem VU:Dn 202 (Ox N):=Dt (Dq [(302,Io N),(303,WE N)] Y7) Zc Tryz.f202 N (Dk ⟨Ib N,mM N,trivial⟩)
def Agm:List (Nat×Nrm):=[(3,⟨[0,5],[],[],[],[]⟩),(11,⟨[0,5],[],[],[],[]⟩),(18,⟨[0,5],[],[],[],[]⟩),(38,⟨[0,5,6],[],[],[],[]⟩)]
def AhL:Lk:=⟨[],[(18,⟨[(0,.i),(5,.c x64)],[]⟩,[(0,⟨[(0,.i),(5,.c x64)],[]⟩)]),(38,⟨[(0,.i),(5,.i),(6,.c x64)],[]⟩,[(2,⟨[(0,.i),(5,.i)],[]⟩)])]⟩
def pU:Sig:=.of [Dw] [Dw,Dw,DJ] (fun a=>Ab2 N a)
theorem AcE:Dn 397 (pU N):=Dt (Dq [(396,Ph N),(365,PE N),(366,VO N)] Agm [] [] [] [24,27,28,33,34,41,42,46,47,53,64,70,71,76,82,83]) AhL Tryz.f397 N (Dk ⟨Oh N,Qe N,Yv N,trivial⟩)
def yC:Sig:=.of [Dw] [DJ] (fun a=>mQ N a)
theorem AeC:Dn 369 (yC N):=Dt (Dq [(396,Ph N)] []) ⟨[],[]⟩ Tryz.f369 N (Dk ⟨Oh N,trivial⟩)
def ZK:Sig:=.of [Dw] [DJ] (fun a=>VS N a)
theorem yG:Dn 370 (ZK N):=Dt (Dq [(396,Ph N),(398,VT N)] [] [] [] [] [5,9,13,14,18,19,23,24,29,30]) ⟨[],[]⟩ Tryz.f370 N (Dk ⟨Oh N,Y5 N,trivial⟩)
def WC:Sig:=.of [Dw,Dw] [DJ] (fun a=>RQ N a.1 a.2)
theorem mG:Dn 399 (WC N):=Dt (Dq [(425,xZ N)] []) ⟨[],[]⟩ Tryz.f399 N (Dk ⟨Ae8 N,trivial⟩)
def Pm:Sig:=.of [Dw] [Dw] (fun a=>Ld N a)
theorem Oi:Dn 146 (Pm N):=Dt (Dq [(213,WB N),(132,EL N)] []) ⟨[],[]⟩ Tryz.f146 N (Dk ⟨mD N,E8 N,trivial⟩)
def JP:Sig:=.of [Dp] [Dw,Dp] (fun a=>G9 N a)
theorem KR:Dn 72 (JP N):=Dt (Dq [(135,pI N),(136,Abz N),(137,RV N)] []) ⟨[],[]⟩ Tryz.f72 N (Dk ⟨Ac5 N,Agh N,RX N,trivial⟩)
def Jt:Sig:=.of [Dp,Dp] [Dw] (fun a=>FI N a.1 a.2)
theorem Jc:Dn 77 (Jt N):=Dt (Dq [(145,Vb N),(132,EL N)] []) ⟨[],[]⟩ Tryz.f77 N (Dk ⟨iJ N,E8 N,trivial⟩)
def VP:Sig:=.of [Dw] [Dp] (fun a=>bJ N a)
theorem Yw:Dn 325 (VP N):=Dt (Dq [(147,bP N),(380,pM N)] []) ⟨[],[]⟩ Tryz.f325 N (Dk ⟨iH N,AcA N,trivial⟩)
def Sj:Sig:=.of [Dp,DJ] [Dw] (fun a=>LQ N a.1 a.2)
theorem Vh:Dn 142 (Sj N):=Dt (Dq [(211,NC N),(132,EL N)] []) ⟨[],[]⟩ Tryz.f142 N (Dk ⟨Qy N,E8 N,trivial⟩)
def PG:Sig:=.of [Dp,Dp] [Dw] (fun a=>U0 N a.1 a.2)
theorem Qj:Dn 143 (PG N):=Dt (Dq [(212,Yy N),(132,EL N)] []) ⟨[],[]⟩ Tryz.f143 N (Dk ⟨rQ N,E8 N,trivial⟩)
def qA:Sig:=.of [Dw,Dp] [Ie,Dp] (fun a=>Ab8 N a.1 a.2)
theorem AcJ:Dn 79 (qA N):=Dt (Dq [(147,bP N)] []) ⟨[],[]⟩ Tryz.f79 N (Dk ⟨iH N,trivial⟩)
def Ajx:List (Nat×Nrm):=[(3,⟨[2,3],[],[],[(33637,1012288),(1000000,1012288)],[]⟩),(11,⟨[0,2,3,4,5],[([5],119,Tq0,1008192)],[],[(33637,1008208),(1004096,1008192),(1004112,1008208)],[]⟩),(14,⟨[0,2,3,4],[],[],[(33637,1000000),(44288,1000000)],[]⟩),(30,⟨[0,2,3,4,5,6],[([5],119,Tq0,1004096)],[],[(33637,1004112),(43008,1004096),(1000000,1004112)],[]⟩)]
def AkO:Lk:=⟨[],[(14,⟨[(0,.c AQ),(2,.c AL),(3,.c AP),(4,.c x64)],[(0,.box BF),(33280,.box BP),(33281,.D5 120 false Ar),(33536,.box [(xo 1000000)]),(1000000,.arr 120 false Ar)]⟩,[(0,⟨[(2,.c AL),(3,.c AP)],[(0,.box BF),(33280,.box BP),(33281,.D5 120 false Ar),(33536,.box [(xo 1012288)]),(1012288,.arr 120 false Ar)]⟩)]),(30,⟨[(0,.c AQ),(2,.c AL),(3,.c AP),(4,.i),(5,.c (xo 1004096)),(6,.c x64)],[(0,.box BF),(33280,.box BP),(33281,.D5 120 false Ar),(33536,.box [(xo 1004112)]),(1004096,.arr 119 false Tq0),(1004112,.arr 120 false Ar)]⟩,[(2,⟨[(0,.c AQ),(2,.c AL),(3,.c AP),(4,.i),(5,.c (xo 1008192))],[(0,.box BF),(33280,.box BP),(33281,.D5 120 false Ar),(33536,.box [(xo 1008208)]),(1008192,.arr 119 false Tq0),(1008208,.arr 120 false Ar)]⟩)])]⟩
def Uu:Sig:=.of [Sq1] [Sq2] (fun a=>Z9 N a)
theorem TY:Dn 89 (Uu N):=Dt (Dq [(6,Ez N),(156,Yk N)] Ajx) AkO Tryz.f89 N (Dk ⟨Ei N,rP N,trivial⟩)
def yT:List (Nat×Nrm):=[(3,⟨[],[],[],[],[]⟩),(11,⟨[0,12,13,14],[],[],[],[]⟩),(18,⟨[0,12,13,14],[],[],[],[]⟩),(38,⟨[0,5,6,7,12,13,14],[],[],[],[]⟩)]
def AaL:Lk:=⟨[],[(18,⟨[(0,.i),(12,.i),(13,.i),(14,.c x64)],[]⟩,[(0,⟨[],[]⟩)]),(38,⟨[(0,.i),(5,.i),(6,.i),(7,.c x64),(12,.i),(13,.i),(14,.i)],[]⟩,[(2,⟨[(0,.i),(12,.i),(13,.i),(14,.i)],[]⟩)])]⟩
def WN:Sig:=.of [Sq4,Dp] [Dp] (fun a=>Sm N a.1 a.2)
theorem nM:Dn 319 (WN N):=Dt (Dq [(302,Io N)] yT) AaL Tryz.f319 N (Dk ⟨Ib N,trivial⟩)
def bY:List (Nat×Nrm):=[(3,⟨[],[],[],[],[]⟩),(11,⟨[0,9,10,11],[],[],[],[]⟩),(18,⟨[0,9,10,11],[],[],[],[]⟩),(38,⟨[0,3,4,5,9,10,11],[],[],[],[]⟩)]
def iY:Lk:=⟨[],[(18,⟨[(0,.i),(9,.i),(10,.i),(11,.c x64)],[]⟩,[(0,⟨[],[]⟩)]),(38,⟨[(0,.i),(3,.i),(4,.c AU),(5,.c x64),(9,.i),(10,.i),(11,.i)],[(33792,.box [xs,xs])]⟩,[(2,⟨[(0,.i),(9,.i),(10,.i),(11,.i)],[]⟩)])]⟩
def Q7:Sig:=.of [AoL] [Dp] (fun a=>Tu N a)
theorem YG:Dn 320 (Q7 N):=Dt (Dq [(302,Io N)] bY) iY Tryz.f320 N (Dk ⟨Ib N,trivial⟩)
def Abp:Sig:=.of [Dp] [Dw] (fun a=>AgM N a)
theorem AfR:Dn 157 (Abp N):=Dt (Dq [(225,AeF N),(224,Aby N)] []) ⟨[],[]⟩ Tryz.f157 N (Dk ⟨AhN N,Agf N,trivial⟩)
def yD:List (Nat×Nrm):=[(3,⟨[],[],[],[],[]⟩),(18,⟨[11,12,13],[],[],[],[]⟩)]
def AaF:Lk:=⟨[],[(18,⟨[(11,.i),(12,.i),(13,.c x64)],[]⟩,[(0,⟨[],[]⟩)])]⟩
def Gg:Sig:=.of [Sq2] [Dp] (fun a=>Gm N a)
theorem FU:Dn 128 (Gg N):=Dt (Dq [(202,Ox N)] yD) AaF Tryz.f128 N (Dk ⟨VU N,trivial⟩)
def Y4:Sig:=.of [Dw] [DJ] (fun a=>Xk N a)
theorem ZJ:Dn 368 (Y4 N):=Dt (Dq [(397,pU N)] []) ⟨[],[]⟩ Tryz.f368 N (Dk ⟨AcE N,trivial⟩)
def AjU:List (Nat×Nrm):=[(3,⟨[],[],[],[],[]⟩),(10,⟨[3,7,8,9],[],[],[],[]⟩)]
def AkY:Lk:=⟨[],[(10,⟨[(3,.c AP),(7,.i),(8,.i),(9,.c x64)],[(33536,.box [xs,x64,xs])]⟩,[(0,⟨[],[]⟩)])]⟩
def Ab1:Sig:=.of [.cell false (.sl 119 Tq0),Sq7] [DJ] (fun a=>ZL N a.1 a.2)
theorem Agl:Dn 373 (Ab1 N):=Dt (Dq [(399,WC N)] AjU) AkY Tryz.f373 N (Dk ⟨mG N,trivial⟩)
def rZ:List (Nat×Nrm):=[(3,⟨[3],[([3],9,Aq,1004096)],[],[(1000000,1004096)],[]⟩),(14,⟨[3,6,7,8],[([3],9,Aq,1000000)],[],[(39168,1000000)],[]⟩)]
def yI:Lk:=⟨[],[(14,⟨[(3,.c (xo 1000000)),(6,.i),(7,.i),(8,.c x64)],[(1000000,.arr 9 false Aq)]⟩,[(0,⟨[(3,.c (xo 1004096))],[(1004096,.arr 9 false Aq)]⟩)])]⟩
def Ve:Sig:=.of [.cell false (.sl 119 Tq0)] [Sq4] (fun a=>Y6 N a)
theorem iP:Dn 134 (Ve N):=Dt (Dq [(146,Pm N),(132,EL N)] rZ) yI Tryz.f134 N (Dk ⟨Oi N,E8 N,trivial⟩)
def yQ:List (Nat×Nrm):=[(3,⟨[],[],[],[],[]⟩),(10,⟨[0,8,9,10],[],[],[],[]⟩)]
def AaK:Lk:=⟨[],[(10,⟨[(0,.i),(8,.i),(9,.i),(10,.c x64)],[]⟩,[(0,⟨[],[]⟩)])]⟩
def WM:Sig:=.of [.cell false (.sl 220 Tq4)] [Dp] (fun a=>ZT N a)
theorem nK:Dn 307 (WM N):=Dt (Dq [(302,Io N),(324,YD N),(325,VP N)] yQ) AaK Tryz.f307 N (Dk ⟨Ib N,ZQ N,Yw N,trivial⟩)
def Ja:Sig:=.of [] [Dw] (fun _=>JU N)
theorem Ji:Dn 78 (Ja N):=Dt (Dq [(146,Pm N),(132,EL N)] []) ⟨[],[]⟩ Tryz.f78 N (Dk ⟨Oi N,E8 N,trivial⟩)
def Ob:Sig:=.of [Sq1] [Sq5] (fun a=>KO N a)
theorem OE:Dn 85 (Ob N):=Dt (Dq [(6,Ez N),(89,Uu N)] []) ⟨[],[]⟩ Tryz.f85 N (Dk ⟨Ei N,TY N,trivial⟩)
def Aej:Sig:=.of [Sq1] [Ie] (fun a=>Ajv N a)
theorem Ahx:Dn 90 (Aej N):=Dt (Dq [(6,Ez N),(157,Abp N)] []) ⟨[],[]⟩ Tryz.f90 N (Dk ⟨Ei N,AfR N,trivial⟩)
def Abk:Sig:=.of [Sq1] [Sq5] (fun a=>Z8 N a)
theorem AfN:Dn 227 (Abk N):=Dt (Dq [(6,Ez N),(89,Uu N)] []) ⟨[],[]⟩ Tryz.f227 N (Dk ⟨Ei N,TY N,trivial⟩)
def Pv:Sig:=.of [Dw] [Dp] (fun a=>NJ N a)
theorem Om:Dn 92 (Pv N):=Dt (Dq [(95,JZ N),(162,zN N)] []) ⟨[],[]⟩ Tryz.f92 N (Dk ⟨IK N,AeS N,trivial⟩)
def IA:Sig:=.of [Dw,Dp] [Ie,Dp] (fun a=>JD N a.1 a.2)
theorem Gv:Dn 55 (IA N):=Dt (Dq [(95,JZ N)] []) ⟨[],[]⟩ Tryz.f55 N (Dk ⟨IK N,trivial⟩)
def Ih (N:Nat):Alt:=.of [.cell false .str] [H6,.cell false (.int .i64)] [.cell false .ptr,.cell false (.int .i64)] (fun a=>Jw N a)
theorem Jy:Spec Tryz.prog 56 (Ih N).1/\Spec Tryz.prog 56 (Ih N).2.1:=WW (C:=ctx Tryz.prog [(58,FV N)] []) (L:=⟨[],[]⟩) (fn:=Tryz.f56) (N:=N) (Dk ⟨Fz N,trivial⟩) (by kernel_rfl) (by kernel_rfl) (fun a=>by kernel_rfl)
def jL:List (Nat×Nrm):=[(3,⟨[10],[([10],9,Aq,1004096)],[],[(1000000,1004096)],[]⟩),(46,⟨[10,33,34,35],[([10],9,Aq,1000000)],[],[(43776,1000000)],[]⟩)]
def qI:Lk:=⟨[],[(46,⟨[(10,.c (xo 1000000)),(33,.i),(34,.i),(35,.c x64)],[(0,.box [Bl]),(1000000,.arr 9 false Aq)]⟩,[(0,⟨[(10,.c (xo 1004096))],[(0,.box [Bl]),(1004096,.arr 9 false Aq)]⟩)])]⟩
def SX:Sig:=.of [H6,Dp] [Sq4,Dp] (fun a=>Fv N a.1 a.2)
theorem ZZ:Dn 35 (SX N):=Dt (Dq [(57,Fb N),(58,FV N)] jL) qI Tryz.f35 N (Dk ⟨EP N,Fz N,trivial⟩)
def SS:Sig:=.of [H6,Dp] [Dw,Dp] (fun a=>FX N a.1 a.2)
theorem ZX:Dn 59 (SS N):=Dt (Dq [(57,Fb N),(95,JZ N)] []) ⟨[],[]⟩ Tryz.f59 N (Dk ⟨EP N,IK N,trivial⟩)
def Ho:Sig:=.of [Ie] [Dp] (fun a=>Iz N a)
theorem IG:Dn 106 (Ho N):=Dt (Dq [(58,FV N),(172,Nz N)] []) ⟨[],[]⟩ Tryz.f106 N (Dk ⟨Fz N,MS N,trivial⟩)
def Alf:List (Nat×Nrm):=[(3,⟨[],[],[],[],[]⟩),(10,⟨[0,1,5],[],[],[],[]⟩)]
def Anl:Lk:=⟨[],[(10,⟨[(0,.i),(1,.i),(5,.c x64)],[]⟩,[(0,⟨[],[]⟩)])]⟩
def AeP:Sig:=.of [Dw,.cell false .fn] [DJ] (fun a=>AcO N a.1 a.2)
theorem AhV:Dn 333 (AeP N):=Dt (Dq [] Alf [] [(12,AgC N)]) Anl Tryz.f333 N (Dk trivial trivial ⟨Ami N,trivial⟩)
def Aap:Sig:=.of [Jd] [DJ] (fun a=>QK N a)
theorem jU:Dn 268 (Aap N):=Dt (Dq [] []) ⟨[],[]⟩ Tryz.f268 N (Dk trivial)
def Aaq:Sig:=.of [Jd] [DJ] (fun a=>QL N a)
theorem jV:Dn 271 (Aaq N):=Dt (Dq [] []) ⟨[],[]⟩ Tryz.f271 N (Dk trivial)
def Aar:Sig:=.of [Jd] [DJ] (fun a=>QM N a)
theorem jW:Dn 274 (Aar N):=Dt (Dq [] []) ⟨[],[]⟩ Tryz.f274 N (Dk trivial)
def Aas:Sig:=.of [Jd] [DJ] (fun a=>QN N a)
theorem jX:Dn 277 (Aas N):=Dt (Dq [] []) ⟨[],[]⟩ Tryz.f277 N (Dk trivial)
def Ae1:Sig:=.of [Dw,Dp] [DJ] (fun a=>lV N a.1 a.2)
theorem Ah5:Dn 386 (Ae1 N):=Dt (Dq [] []) ⟨[],[]⟩ Tryz.f386 N (Dk trivial)
def FZ:Sig:=.of [H6] [Dp] (fun a=>F7 N a)
theorem FQ:Dn 184 (FZ N):=Dt (Dq [] []) ⟨[],[]⟩ Tryz.f184 N (Dk trivial)
def YW:Sig:=.of [Sq4,AeW] [] (fun a=>KJ N a.1 a.2)
theorem V3:Dn 344 (YW N):=Dt (Dq [] []) ⟨[],[]⟩ Tryz.f344 N (Dk trivial)
def YV:Sig:=.of [Sq4,AeW] [] (fun a=>KI N a.1 a.2)
theorem Vz:Dn 345 (YV N):=Dt (Dq [] []) ⟨[],[]⟩ Tryz.f345 N (Dk trivial)
def AbS:Sig:=.of [Jd] [DJ] (fun a=>TF N a)
theorem qU:Dn 244 (AbS N):=Dt (Dq [] []) ⟨[],[]⟩ Tryz.f244 N (Dk trivial)
def AbT:Sig:=.of [Jd] [DJ] (fun a=>TG N a)
theorem qV:Dn 247 (AbT N):=Dt (Dq [] []) ⟨[],[]⟩ Tryz.f247 N (Dk trivial)
def AbU:Sig:=.of [Jd] [DJ] (fun a=>TJ N a)
theorem qW:Dn 250 (AbU N):=Dt (Dq [] []) ⟨[],[]⟩ Tryz.f250 N (Dk trivial)
def AbV:Sig:=.of [Jd] [DJ] (fun a=>TK N a)
theorem qX:Dn 253 (AbV N):=Dt (Dq [] []) ⟨[],[]⟩ Tryz.f253 N (Dk trivial)
def AbW:Sig:=.of [Jd] [DJ] (fun a=>TL N a)
theorem qY:Dn 256 (AbW N):=Dt (Dq [] []) ⟨[],[]⟩ Tryz.f256 N (Dk trivial)
def AbX:Sig:=.of [Jd] [DJ] (fun a=>TM N a)
theorem qZ:Dn 259 (AbX N):=Dt (Dq [] []) ⟨[],[]⟩ Tryz.f259 N (Dk trivial)
def AbY:Sig:=.of [Jd] [DJ] (fun a=>TN N a)
theorem rC:Dn 262 (AbY N):=Dt (Dq [] []) ⟨[],[]⟩ Tryz.f262 N (Dk trivial)
def AbZ:Sig:=.of [Jd] [DJ] (fun a=>TP N a)
theorem rD:Dn 265 (AbZ N):=Dt (Dq [] []) ⟨[],[]⟩ Tryz.f265 N (Dk trivial)
def Ahu:List (Nat×Nrm):=[(3,⟨[],[],[],[],[]⟩),(18,⟨[27,28,29],[],[],[],[]⟩)]
def Aji:Lk:=⟨[],[(18,⟨[(27,.c (xo 39680)),(28,.i),(29,.c x64)],[(39680,.arr 5 false Aw)]⟩,[(0,⟨[],[]⟩)])]⟩
def wU:Sig:=.of [Dw] [DJ] (fun a=>AdQ N a)
theorem AdR:Dn 316 (wU N):=Dt (Dq [(312,VH N),(313,Ye N)] Ahu [] [] [] [8,12,13,17,18,25]) Aji Tryz.f316 N (Dk ⟨Yf N,Z7 N,trivial⟩)
def Ahs:List (Nat×Nrm):=[(3,⟨[],[],[],[],[]⟩),(26,⟨[3,4,5,6],[],[],[],[]⟩)]
def Ajh:Lk:=⟨[],[(26,⟨[(3,.i),(4,.i),(5,.c xb),(6,.c x64)],[]⟩,[(0,⟨[],[]⟩)])]⟩
def wR:Sig:=.of [Dw] [DJ] (fun a=>kX N a)
theorem AdO:Dn 356 (wR N):=Dt (Dq [(392,oP N),(393,AdP N)] Ahs [] [] [] [32,34,35,38,42,43]) Ajh Tryz.f356 N (Dk ⟨Acn N,Aht N,trivial⟩)
def Adn:List (Nat×Nrm):=[(3,⟨[2],[],[],[],[]⟩),(10,⟨[0,2,6,7,8],[],[],[],[]⟩)]
def Afi:Lk:=⟨[],[(10,⟨[(0,.i),(2,.c AL),(6,.i),(7,.i),(8,.c x64)],[(33280,.box BQ)]⟩,[(0,⟨[(2,.c AL)],[(33280,.box BQ)]⟩)])]⟩
def TD:Sig:=.of [Dw] [ArU,DJ] (fun a=>X9 N a)
theorem Wl:Dn 236 (TD N):=Dt (Dq [(180,TQ N)] Adn) Afi Tryz.f236 N (Dk ⟨Wn N,trivial⟩)
def AgA (N n:Nat):Sig:=.of [Jd] [.cell false .bool] (Al1 N n)
theorem Amg:Px Tryz.prog (AgA N):=TT (Dv:=[Jd]) (DI:=[.cell false .bool]) (l:=[(241,fun a=>TE N a),(244,fun a=>TF N a),(247,fun a=>TG N a),(250,fun a=>TJ N a),(253,fun a=>TK N a),(256,fun a=>TL N a),(259,fun a=>TM N a),(262,fun a=>TN N a),(265,fun a=>TP N a),(268,fun a=>QK N a),(271,fun a=>QL N a),(274,fun a=>QM N a),(277,fun a=>QN N a)]) ⟨qR N,qU N,qV N,qW N,qX N,qY N,qZ N,rC N,rD N,jU N,jV N,jW N,jX N,trivial⟩
def vU:List (Nat×Nrm):=[(29,⟨[8,9],[],[],[],[]⟩)]
def Aa4:Lk:=⟨[(29,⟨[(8,.i),(9,.c x64)],[(0,.box [Bl])]⟩)],[]⟩
def OB:Sig:=.of [H6,Dp] [DJ,Dp] (fun a=>Gl N a.1 a.2)
theorem QR:Dn 337 (OB N):=Dt (Dq [(57,Fb N),(233,Ua N)] vU) Aa4 Tryz.f337 N (Dk ⟨EP N,WA N,trivial⟩)
def Lp:Sig:=.of [Dw] [Dp,Dp] (fun a=>Jo N a)
theorem MF:Dn 338 (Lp N):=Dt (Dq [(165,Js N)] []) ⟨[],[]⟩ Tryz.f338 N (Dk ⟨IZ N,trivial⟩)
def Ai9 (N n:Nat):Sig:=.of [Sq4,AeW] [] (AnA N n)
theorem AnB:Px Tryz.prog (Ai9 N):=TT (Dv:=[Sq4,AeW]) (DI:=[]) (l:=[(344,fun a=>KJ N a.1 a.2)]) ⟨V3 N,trivial⟩
def AiA (N n:Nat):Sig:=.of [Sq4,AeW] [] (AnC N n)
theorem AnD:Px Tryz.prog (AiA N):=TT (Dv:=[Sq4,AeW]) (DI:=[]) (l:=[(345,fun a=>KI N a.1 a.2)]) ⟨Vz N,trivial⟩
def V8:Sig:=.of [Dp] [Dp] (fun a=>Uj N a)
theorem XO:Dn 296 (V8 N):=Dt (Dq [] [] [] [(7,vV N),(12,vV N)]) ⟨[],[]⟩ Tryz.f296 N (Dk trivial trivial ⟨Ad5 N,Ad5 N,trivial⟩)
def gU:Sig:=.of [AlC,Ie] [Dp] (fun a=>MJ N a.1 a.2)
theorem Yi:Dn 232 (gU N):=Dt (Dq [(107,OZ N),(110,TZ N)] []) ⟨[],[]⟩ Tryz.f232 N (Dk ⟨Og N,W9 N,trivial⟩)
def AkD:List (Nat×Nrm):=[(3,⟨[],[],[],[],[]⟩),(18,⟨[9,10,11],[],[],[],[]⟩)]
def Am2:Lk:=⟨[],[(18,⟨[(9,.i),(10,.i),(11,.c x64)],[]⟩,[(0,⟨[],[]⟩)])]⟩
def QZ:Sig:=.of [Dw] [DJ] (fun a=>Ku N a)
theorem P7:Dn 218 (QZ N):=Dt (Dq [(315,MW N),(316,wU N)] AkD) Am2 Tryz.f218 N (Dk ⟨Vq N,AdR N,trivial⟩)
def Ah4:List (Nat×Nrm):=[(3,⟨[8],[],[],[],[]⟩),(46,⟨[4,8,35,36],[],[],[],[]⟩)]
def AjH:Lk:=⟨[],[(46,⟨[(4,.i),(8,.c x64),(35,.i),(36,.c x64)],[]⟩,[(0,⟨[(8,.c x64)],[]⟩)])]⟩
def RD:Sig:=.of [Dw] [Dp,Dp] (fun a=>Rz N a)
theorem RF:Dn 339 (RD N):=Dt (Dq [(107,OZ N),(386,Ae1 N)] Ah4) AjH Tryz.f339 N (Dk ⟨Og N,Ah5 N,trivial⟩)
def MP:Sig:=.of [H6] [Dw,Dp] (fun a=>Pz N a)
theorem Nh:Dn 342 (MP N):=Dt (Dq [(60,Ey N),(172,Nz N)] []) ⟨[],[]⟩ Tryz.f342 N (Dk ⟨Em N,MS N,trivial⟩)
def X4:Sig:=.of [H6] [Dw,Dp] (fun a=>dL N a)
theorem qK:Dn 63 (X4 N):=Dt (Dq [(60,Ey N),(107,OZ N)] []) ⟨[],[]⟩ Tryz.f63 N (Dk ⟨Em N,Og N,trivial⟩)
def XM:Sig:=.of [H6] [Dp,Dp] (fun a=>kE N a)
theorem Zp:Dn 112 (XM N):=Dt (Dq [(60,Ey N),(165,Js N)] []) ⟨[],[]⟩ Tryz.f112 N (Dk ⟨Em N,IZ N,trivial⟩)
def Zq:Sig:=.of [H6] [Dw,Dp] (fun a=>oJ N a)
theorem vH:Dn 67 (Zq N):=Dt (Dq [(60,Ey N),(107,OZ N)] []) ⟨[],[]⟩ Tryz.f67 N (Dk ⟨Em N,Og N,trivial⟩)
def XW:List (Nat×Nrm):=[(85,⟨[2,4,5,7],[],[],[],[]⟩)]
def Za:Lk:=⟨[(85,⟨[(2,.c AL),(4,.c AU),(5,.i),(7,.i)],[(33280,.box [AA,A8,AA]),(33792,.box [AA,A8,AA])]⟩)],[]⟩
def Ou:Sig:=.of [Ie] [Sq7,Dp] (fun a=>Qs N a)
theorem VB:Dn 281 (Ou N):=Dt (Dq [(58,FV N),(172,Nz N)] XW) Za Tryz.f281 N (Dk ⟨Fz N,MS N,trivial⟩)
def Ad0:List (Nat×Nrm):=[(3,⟨[1,4],[],[],[],[]⟩),(30,⟨[1,4,5],[],[],[],[]⟩)]
def Afw:Lk:=⟨[],[(30,⟨[(1,.c AO),(4,.c x64),(5,.c x64)],[(33024,.box BZ)]⟩,[(0,⟨[(1,.c AO),(4,.c x64)],[(33024,.box BZ)]⟩)])]⟩
def fK:Sig:=.of [Sq8] [Dp,Dp] (fun a=>vN N a)
theorem Aa3:Dn 283 (fK N):=Dt (Dq [(297,V9 N),(296,V8 N)] Ad0 [] [] [] [9,13,14,18,19,23,24,28,29,38,42,46,47,51,52,56,57,61,62,66]) Afw Tryz.f283 N (Dk ⟨XP N,XO N,trivial⟩)
def Aci:List (Nat×Nrm):=[(89,⟨[2,4,5,6],[],[],[],[]⟩)]
def AdC:Lk:=⟨[(89,⟨[(2,.c AL),(4,.c AU),(5,.c AV),(6,.c Bl)],[(33280,.box [AA,AB,AA]),(33792,.box [AA,AB,AA]),(34048,.box [xs,xb,AA])]⟩)],[]⟩
def Zy:Sig:=.of [Ie] [Sq9,Dp] (fun a=>oN N a)
theorem wB:Dn 169 (Zy N):=Dt (Dq [(58,FV N),(172,Nz N),(233,Ua N)] Aci) AdC Tryz.f169 N (Dk ⟨Fz N,MS N,WA N,trivial⟩)
def aZ:Sig:=.of [Dw] [DJ] (fun a=>UT N a)
theorem gG:Dn 150 (aZ N):=Dt (Dq [(216,qC N),(217,wV N),(218,QZ N)] [] [] [] [] [13,17,18,21,22,25]) ⟨[],[]⟩ Tryz.f150 N (Dk ⟨AcK N,AdS N,P7 N,trivial⟩)
def Abi:Sig:=.of [Dw] [DJ] (fun a=>wP N a)
theorem AfF:Dn 354 (Abi N):=Dt (Dq [(218,QZ N)] []) ⟨[],[]⟩ Tryz.f354 N (Dk ⟨P7 N,trivial⟩)
def gI:Sig:=.of [Dw] [DJ] (fun a=>Yd N a)
theorem Aa7:Dn 355 (gI N):=Dt (Dq [(391,Tv N),(218,QZ N),(311,NI N)] []) ⟨[],[]⟩ Tryz.f355 N (Dk ⟨cZ N,P7 N,Q8 N,trivial⟩)
def qM:List (Nat×Nrm):=[(3,⟨[],[],[],[],[]⟩),(11,⟨[0,13,14,15],[],[],[],[]⟩),(18,⟨[0,13,14,15],[],[],[],[]⟩),(38,⟨[0,6,13,14,15,25,26,27],[],[],[],[]⟩)]
def uG:Lk:=⟨[],[(18,⟨[(0,.i),(13,.i),(14,.i),(15,.c x64)],[]⟩,[(0,⟨[],[]⟩)]),(38,⟨[(0,.i),(6,.i),(13,.i),(14,.i),(15,.i),(25,.i),(26,.i),(27,.c x64)],[]⟩,[(2,⟨[(0,.i),(13,.i),(14,.i),(15,.i)],[]⟩)])]⟩
def UH:Sig:=.of [Sq4,Dp] [Dp] (fun a=>PN N a.1 a.2)
theorem dO:Dn 176 (UH N):=Dt (Dq [(235,Kv N)] qM) uG Tryz.f176 N (Dk ⟨Jr N,trivial⟩)
def X7:List (Nat×Nrm):=[(3,⟨[],[],[],[],[]⟩),(11,⟨[0,10,11,12],[],[],[],[]⟩),(18,⟨[0,10,11,12],[],[],[],[]⟩),(38,⟨[0,4,10,11,12,29,30,31],[],[],[],[]⟩)]
def YQ:Lk:=⟨[],[(18,⟨[(0,.i),(10,.i),(11,.i),(12,.c x64)],[]⟩,[(0,⟨[],[]⟩)]),(38,⟨[(0,.i),(4,.c AU),(10,.i),(11,.i),(12,.i),(29,.i),(30,.i),(31,.c x64)],[(33792,.box [xs,xs])]⟩,[(2,⟨[(0,.i),(10,.i),(11,.i),(12,.i)],[]⟩)])]⟩
def Oq:Sig:=.of [AoL] [Dp] (fun a=>Qo N a)
theorem Vy:Dn 177 (Oq N):=Dt (Dq [(235,Kv N)] X7) YQ Tryz.f177 N (Dk ⟨Jr N,trivial⟩)
def O8:Sig:=.of [Dw] [Dp] (fun a=>Ha N a)
theorem QF:Dn 52 (O8 N):=Dt (Dq [(92,Pv N)] []) ⟨[],[]⟩ Tryz.f52 N (Dk ⟨Om N,trivial⟩)
def Gy (N:Nat):Alt:=.of [.cell false .str,.cell false (.int .i64)] [H6,.cell false (.int .i64)] [.cell false .ptr,.cell false (.int .i64)] (fun a=>Hg N a.1 a.2)
theorem Gw:Spec Tryz.prog 34 (Gy N).1/\Spec Tryz.prog 34 (Gy N).2.1:=WW (C:=ctx Tryz.prog [(55,IA N)] [] [(56,Ih N)]) (L:=⟨[],[]⟩) (fn:=Tryz.f34) (N:=N) (Dk ⟨Gv N,trivial⟩ ⟨Jy N,trivial⟩) (by kernel_rfl) (by kernel_rfl) (fun a=>by kernel_rfl)
def PM:Sig:=.of [H6] [Dp] (fun a=>TA N a)
theorem SY:Dn 62 (PM N):=Dt (Dq [(97,Ii N),(106,Ho N)] []) ⟨[],[]⟩ Tryz.f62 N (Dk ⟨HY N,IG N,trivial⟩)
def Zj:Sig:=.of [H6] [Dp] (fun a=>oD N a)
theorem uF:Dn 98 (Zj N):=Dt (Dq [(60,Ey N),(55,IA N),(165,Js N)] []) ⟨[],[]⟩ Tryz.f98 N (Dk ⟨Em N,Gv N,IZ N,trivial⟩)
def zK:Sig:=.of [Dp,Dw] [DJ] (fun a=>nZ N a.1 a.2)
theorem AeO:Dn 239 (zK N):=Dt (Dq [(332,AeQ N),(333,AeP N)] []) ⟨[],[]⟩ Tryz.f239 N (Dk ⟨AhW N,AhV N,trivial⟩)
def Zb:List (Nat×Nrm):=[(3,⟨[6],[([6],119,Tq0,1004096)],[],[(1000000,1004096)],[]⟩),(42,⟨[6,26,27,28],[([6],119,Tq0,1000000)],[],[(43776,1000000)],[]⟩)]
def aT:Lk:=⟨[],[(42,⟨[(6,.c (xo 1000000)),(26,.i),(27,.i),(28,.c x64)],[(1000000,.arr 119 false Tq0)]⟩,[(0,⟨[(6,.c (xo 1004096))],[(1004096,.arr 119 false Tq0)]⟩)])]⟩
def OW:Sig:=.of [Ie] [.cell false (.sl 119 Tq0),Dp] (fun a=>QT N a)
theorem Xd:Dn 182 (OW N):=Dt (Dq [(58,FV N),(280,ZU N),(281,Ou N)] Zb) aT Tryz.f182 N (Dk ⟨Fz N,zL N,VB N,trivial⟩)
def FM (N:Nat):Alt:=.of [H6] [H6,.cell false (.int .i64)] [.cell false .ptr,.cell false (.int .i64)] (fun a=>Hr N a)
theorem GK:Spec Tryz.prog 166 (FM N).1/\Spec Tryz.prog 166 (FM N).2.1:=WW (C:=ctx Tryz.prog [(60,Ey N)] [] [(56,Ih N)]) (L:=⟨[],[]⟩) (fn:=Tryz.f166) (N:=N) (Dk ⟨Em N,trivial⟩ ⟨Jy N,trivial⟩) (by kernel_rfl) (by kernel_rfl) (fun a=>by kernel_rfl)
def Afu:List (Nat×Nrm):=[(33,⟨[1,6],[],[],[],[]⟩),(69,⟨[1,6,7],[],[],[],[]⟩)]
def Ahj:Lk:=⟨[(33,⟨[(1,.i),(6,.c x64)],[]⟩),(69,⟨[(1,.i),(6,.i),(7,.c x64)],[]⟩)],[]⟩
def P5:Sig:=.of [Dp,Dw] [Dp,Dp] (fun a=>Ui N a.1 a.2)
theorem PU:Dn 183 (P5 N):=Dt (Dq [(282,VA N),(284,vS N),(283,fK N)] Afu) Ahj Tryz.f183 N (Dk ⟨XQ N,Ad3 N,Aa3 N,trivial⟩)
def Y3:Sig:=.of [Dw] [DJ] (fun a=>Uc N a)
theorem rX:Dn 367 (Y3 N):=Dt (Dq [(368,Y4 N),(396,Ph N)] [] [] [] [] [5,8,9,13,17,18,22,23,27,28]) ⟨[],[]⟩ Tryz.f367 N (Dk ⟨ZJ N,Oh N,trivial⟩)
def AaG:List (Nat×Nrm):=[(3,⟨[],[],[],[],[]⟩),(18,⟨[0,1,12,13],[],[],[],[]⟩)]
def AcD:Lk:=⟨[],[(18,⟨[(0,.i),(1,.i),(12,.i),(13,.c x64)],[]⟩,[(0,⟨[],[]⟩)])]⟩
def Y8:Sig:=.of [.cell false (.sl 119 Tq0),.cell false (.sl 119 Tq0)] [DJ] (fun a=>iQ N a.1 a.2)
theorem sD:Dn 305 (Y8 N):=Dt (Dq [(373,Ab1 N)] AaG) AcD Tryz.f305 N (Dk ⟨Agl N,trivial⟩)
def rW:List (Nat×Nrm):=[(3,⟨[5],[],[],[],[]⟩),(26,⟨[5,14,15,16],[],[],[],[]⟩)]
def yF:Lk:=⟨[],[(26,⟨[(5,.c xs),(14,.i),(15,.i),(16,.c x64)],[]⟩,[(0,⟨[(5,.c xs)],[]⟩)])]⟩
def JS:Sig:=.of [Sq2] [Dw,Dp] (fun a=>J6 N a)
theorem KX:Dn 71 (JS N):=Dt (Dq [(128,Gg N),(134,Ve N),(133,pK N),(132,EL N)] rW) yF Tryz.f71 N (Dk ⟨FU N,iP N,Ac7 N,E8 N,trivial⟩)
def Oy:Sig:=.of [.cell false (.sl 220 Tq4)] [Dp] (fun a=>Q3 N a)
theorem VV:Dn 210 (Oy N):=Dt (Dq [(307,WM N)] []) ⟨[],[]⟩ Tryz.f210 N (Dk ⟨nK N,trivial⟩)
def YE:Sig:=.of [Dw,Dw] [Dw,Dp] (fun a=>nJ N a.1 a.2)
theorem ZR:Dn 45 (YE N):=Dt (Dq [(79,qA N),(74,I4 N),(78,Ja N)] []) ⟨[],[]⟩ Tryz.f45 N (Dk ⟨AcJ N,GR N,Ji N,trivial⟩)
def AfT:List (Nat×Nrm):=[(3,⟨[3],[([3],230,Tq2,1008192)],[],[(1000000,1008192)],[]⟩),(14,⟨[0,3,4],[([3],230,Tq2,1000000)],[],[(41216,1000000)],[]⟩),(33,⟨[0,3,4,5],[([3],230,Tq2,1004096)],[(some 34048,3,Ar)],[(1000000,1004096)],[]⟩)]
def Ahy:Lk:=⟨[(33,⟨[(0,.c AQ),(3,.c (xo 1004096)),(4,.i),(5,.c AV)],[(0,.box BF),(34048,.box [(xo 36608),x64,xb,Bi]),(36608,.arr 170 false Tq1),(1004096,.arr 230 false Tq2)]⟩)],[(14,⟨[(0,.c AQ),(3,.c (xo 1000000)),(4,.c x64)],[(0,.box BF),(1000000,.arr 230 false Tq2)]⟩,[(0,⟨[(3,.c (xo 1008192))],[(0,.box BF),(1008192,.arr 230 false Tq2)]⟩)])]⟩
def VK:Sig:=.of [Sq1] [.cell false (.sl 230 Tq2)] (fun a=>Ux N a)
theorem Yl:Dn 86 (VK N):=Dt (Dq [(6,Ez N),(85,Ob N),(22,L8 N)] AfT) Ahy Tryz.f86 N (Dk ⟨Ei N,OE N,MK N,trivial⟩)
def WJ:Sig:=.of [Ie] [Dw,Dp] (fun a=>ZO N a)
theorem nC:Dn 154 (WJ N):=Dt (Dq [(220,Qi N),(78,Ja N),(222,Ab7 N),(132,EL N)] []) ⟨[],[]⟩ Tryz.f154 N (Dk ⟨Tm N,Ji N,Agq N,E8 N,trivial⟩)
def Acv:List (Nat×Nrm):=[(3,⟨[0,2,3],[],[],[(33637,1004096),(1000000,1004096)],[]⟩),(11,⟨[0,2,3],[],[],[(33638,1012288),(1008192,1012288)],[]⟩),(14,⟨[0,2,3,4],[],[],[(33637,1000000),(37376,1000000)],[]⟩),(30,⟨[0,2,3,5],[],[],[(33638,1008192),(40704,1008192)],[]⟩)]
def Aek:Lk:=⟨[],[(14,⟨[(0,.c AQ),(2,.c AL),(3,.c AP),(4,.c x64)],[(0,.box BF),(33280,.box BR),(33281,.D5 170 false Tq1),(33282,.D5 170 false Tq1),(33536,.box [(xo 1000000),(xo 33638)]),(33638,.D5 170 false Tq1),(1000000,.arr 170 false Tq1)]⟩,[(0,⟨[(0,.c AQ),(2,.c AL),(3,.c AP)],[(0,.box BF),(33280,.box BR),(33281,.D5 170 false Tq1),(33282,.D5 170 false Tq1),(33536,.box [(xo 1004096),(xo 33638)]),(33638,.D5 170 false Tq1),(1004096,.arr 170 false Tq1)]⟩)]),(30,⟨[(0,.c AQ),(2,.c AL),(3,.c AP),(5,.c x64)],[(0,.box BF),(33280,.box BR),(33281,.D5 170 false Tq1),(33282,.D5 170 false Tq1),(33536,.box [(xo 1004096),(xo 1008192)]),(1004096,.arr 170 false Tq1),(1008192,.arr 170 false Tq1)]⟩,[(2,⟨[(0,.c AQ),(2,.c AL),(3,.c AP)],[(0,.box BF),(33280,.box BR),(33281,.D5 170 false Tq1),(33282,.D5 170 false Tq1),(33536,.box [(xo 1004096),(xo 1012288)]),(1004096,.arr 170 false Tq1),(1012288,.arr 170 false Tq1)]⟩)])]⟩
def ZA:Sig:=.of [Sq1] [Aiu] (fun a=>oW N a)
theorem xK:Dn 161 (ZA N):=Dt (Dq [(6,Ez N),(227,Abk N)] Acv) Aek Tryz.f161 N (Dk ⟨Ei N,AfN N,trivial⟩)
def iL:List (Nat×Nrm):=[(53,⟨[2,5],[],[],[],[]⟩)]
def mV:Lk:=⟨[(53,⟨[(2,.c AL),(5,.c xb)],[(33280,.box [x64,xs,Bi])]⟩)],[]⟩
def Jh:Sig:=.of [Sq5,DJ] [Dp] (fun a=>JQ N a.1 a.2)
theorem JA:Dn 304 (Jh N):=Dt (Dq [(367,Y3 N),(368,Y4 N),(369,yC N),(370,ZK N),(371,pR N),(372,ZI N),(128,Gg N)] iL [] [] [] [11,15,16,19,23,24,28,32,33,36,40,41,45,49,50,53,57,58]) mV Tryz.f304 N (Dk ⟨rX N,ZJ N,AeC N,yG N,AcC N,yB N,FU N,trivial⟩)
def rY:List (Nat×Nrm):=[(3,⟨[],[],[],[],[]⟩),(18,⟨[2,3,15,16],[],[],[],[]⟩)]
def yH:Lk:=⟨[],[(18,⟨[(2,.c AL),(3,.c AP),(15,.i),(16,.c x64)],[(33280,.box [Bi]),(33536,.box [Bi])]⟩,[(0,⟨[],[]⟩)])]⟩
def Vd:Sig:=.of [Sq2,Sq2] [DJ] (fun a=>Qh N a.1 a.2)
theorem iO:Dn 208 (Vd N):=Dt (Dq [(305,Y8 N)] rY) yH Tryz.f208 N (Dk ⟨sD N,trivial⟩)
def Xl:List (Nat×Nrm):=[(3,⟨[5],[],[],[],[]⟩),(26,⟨[5,17,18,19],[],[],[],[]⟩),(45,⟨[5,7,8,17,18,19],[],[],[],[]⟩)]
def YA:Lk:=⟨[(45,⟨[(5,.i),(7,.c Ba),(8,.c xs),(17,.i),(18,.i),(19,.i)],[(34560,.box [xs,xb,xs])]⟩)],[(26,⟨[(5,.c xs),(17,.i),(18,.i),(19,.c x64)],[]⟩,[(0,⟨[(5,.c xs)],[]⟩)])]⟩
def J7:Sig:=.of [.cell false (.sl 220 Tq4)] [Dw,Dp] (fun a=>Ky N a)
theorem Le:Dn 140 (J7 N):=Dt (Dq [(210,Oy N),(211,NC N),(132,EL N),(74,I4 N),(146,Pm N)] Xl) YA Tryz.f140 N (Dk ⟨VV N,Qy N,E8 N,GR N,Oi N,trivial⟩)
def Aju:List (Nat×Nrm):=[(3,⟨[2,3],[],[],[],[]⟩),(14,⟨[0,2,3,4],[],[],[],[]⟩),(41,⟨[0,2,3,4,13,27],[],[],[],[]⟩)]
def AkM:Lk:=⟨[(41,⟨[(0,.c AQ),(2,.c AL),(3,.c AP),(4,.i),(13,.i),(27,.c xb)],[(0,.box BF),(33280,.box BC),(33285,.D5 9 false Aq),(33286,.D5 9 false Aq),(33287,.D5 288 false (.str Aq)),(33291,.D5 170 false Tq1),(33293,.D5 170 false Tq1),(33294,.D5 170 false Tq1),(33297,.D5 230 false Tq2),(33298,.D5 230 false Tq2),(33299,.D5 220 false Tq4),(33536,.box Bz)]⟩)],[(14,⟨[(0,.c AQ),(2,.c AL),(3,.c AP),(4,.c x64)],[(0,.box BF),(33280,.box BC),(33285,.D5 9 false Aq),(33286,.D5 9 false Aq),(33287,.D5 288 false (.str Aq)),(33291,.D5 170 false Tq1),(33293,.D5 170 false Tq1),(33294,.D5 170 false Tq1),(33297,.D5 230 false Tq2),(33298,.D5 230 false Tq2),(33299,.D5 220 false Tq4),(33536,.box Bz)]⟩,[(0,⟨[(2,.c AL),(3,.c AP)],[(0,.box BF),(33280,.box BC),(33285,.D5 9 false Aq),(33286,.D5 9 false Aq),(33287,.D5 288 false (.str Aq)),(33291,.D5 170 false Tq1),(33293,.D5 170 false Tq1),(33294,.D5 170 false Tq1),(33297,.D5 230 false Tq2),(33298,.D5 230 false Tq2),(33299,.D5 220 false Tq4),(33536,.box Bz)]⟩)])]⟩
def Abm:Sig:=.of [Sq1] [Jd] (fun a=>AgL N a)
theorem AfP:Dn 91 (Abm N):=Dt (Dq [(158,yO N),(6,Ez N),(159,Abq N),(160,ZB N),(85,Ob N),(161,ZA N),(86,VK N)] Aju) AkM Tryz.f91 N (Dk ⟨AeH N,Ei N,AfS N,xM N,OE N,xK N,Yl N,trivial⟩)
def qH:List (Nat×Nrm):=[(3,⟨[],[],[],[],[]⟩),(18,⟨[18,19,20],[],[],[],[]⟩)]
def tN:Lk:=⟨[],[(18,⟨[(18,.c (xo 37376)),(19,.i),(20,.c x64)],[(37376,.arr 9 false Aq)]⟩,[(0,⟨[],[]⟩)])]⟩
def UD:Sig:=.of [AqE] [Dp] (fun a=>Lh N a)
theorem dJ:Dn 53 (UD N):=Dt (Dq [(52,O8 N)] qH) tN Tryz.f53 N (Dk ⟨QF N,trivial⟩)
def SV:Sig:=.of [Dw] [AqE,Dp] (fun a=>Kz N a)
theorem ZY:Dn 36 (SV N):=Dt (Dq [(59,SS N),(37,Eh N)] [] [(34,Gy N)]) ⟨[],[]⟩ Tryz.f36 N (Dk ⟨ZX N,DZ N,trivial⟩ ⟨Gw N,trivial⟩)
def aS:List (Nat×Nrm):=[(3,⟨[],[],[],[],[]⟩),(11,⟨[0,13,14,15],[],[],[],[]⟩),(26,⟨[0,13,14,15],[],[],[],[]⟩),(62,⟨[0,4,13,14,15,41,42,43],[],[],[],[]⟩)]
def fQ:Lk:=⟨[],[(26,⟨[(0,.i),(13,.i),(14,.i),(15,.c x64)],[]⟩,[(0,⟨[],[]⟩)]),(62,⟨[(0,.i),(4,.c AU),(13,.i),(14,.i),(15,.i),(41,.i),(42,.i),(43,.c x64)],[(33792,.box [xs,x64,xs])]⟩,[(2,⟨[(0,.i),(13,.i),(14,.i),(15,.i)],[]⟩)])]⟩
def Qr:Sig:=.of [.cell false (.sl 119 Tq0)] [Dp] (fun a=>Ti N a)
theorem XV:Dn 174 (Qr N):=Dt (Dq [(235,Kv N),(239,zK N)] aS) fQ Tryz.f174 N (Dk ⟨Jr N,AeO N,trivial⟩)
def AaW:Sig:=.of [H6] [Dp,Dp] (fun a=>uC N a)
theorem Afh:Dn 167 (AaW N):=Dt (Dq [(97,Ii N),(183,P5 N)] []) ⟨[],[]⟩ Tryz.f167 N (Dk ⟨HY N,PU N,trivial⟩)
end
