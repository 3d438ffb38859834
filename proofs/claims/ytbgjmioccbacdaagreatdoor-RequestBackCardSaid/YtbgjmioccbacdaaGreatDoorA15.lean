import Derived.Test.YtbgjmioccbacdaaGreatDoorA13
import Derived.Test.YtbgjmioccbacdaaGreatDoorA14
set_option linter.all false
namespace Go.Proofs.YtbgjmioccbacdaaGreatDoor.Vm
noncomputable section
variable (N:Nat)
open Go.Proofs Go.Proofs.Tryz
def Me:=J9 46 [Sq0,Jt] [Jt] (fun a=>JG N a.1 a.2) [] f46 N
def Ae1:AvM:=[AvK 3 [0,5,6],AvK 11 [0,5,6],AvK 18 [0,1,5,6,7],AvK 19 [0,13,14,15,16,17,18,19,20],AvK 34 [0,5,6,8],AvK 66 [0,5,6,13,14,15,16,17,18,19,20,21]]
def AfN:Lk:=⟨[],[(18,⟨[(0,.i),(1,.i),(5,.c (xo Av8)),(6,.c (.c (.Kq Avt 0 0))),(7,.c x64)],[(Avt,.arr 161 false Az),(Av8,.arr 112 false Az)]⟩,[(0,⟨[(0,.i),(5,.c (xo Av8)),(6,.c (.c (.Kq Avt 0 0)))],[(Avt,.arr 161 false Az),(Av8,.arr 112 false Az)]⟩)]),(34,⟨[(0,.i),(5,.c (xo Av8)),(6,.c (.c (.Kq Avt 0 0))),(8,.c x64)],[(Avt,.arr 161 false Az),(Av8,.arr 112 false Az)]⟩,[(2,⟨[(0,.i),(5,.c (xo Av8)),(6,.c (.c (.Kq Avt 0 0)))],[(Avt,.arr 161 false Az),(Av8,.arr 112 false Az)]⟩)]),(66,⟨[(0,.i),(5,.c (xo Av8)),(6,.c (.c (.Kq Avt 0 0))),(13,.c Bd),(14,.c Bd),(15,.c Bd),(16,.c Bd),(17,.c Bd),(18,.c Bd),(19,.c Bd),(20,.c Bd),(21,.c x64)],[(Avt,.arr 161 false Az),(Av8,.arr 112 false Az)]⟩,[(4,⟨[(0,.i),(13,.c Bd),(14,.c Bd),(15,.c Bd),(16,.c Bd),(17,.c Bd),(18,.c Bd),(19,.c Bd),(20,.c Bd)],[]⟩)])]⟩
def AfO:=JP 56 [Sq3,Ju] [Sq3] (fun a=>SK N a.1 a.2) [] Ae1 AfN f56 N
def TY:=J9 23 [Jt] [Ju] (Pm N) [] f23 N
def Aic:=J9 48 [] [Sq6] (fun _=>oZ N) [] f48 N
def qL:=J9 95 [Jt] [Ju] (Ul N) [] f95 N
def bV (N n:Nat):Sig:=.of [.cell false (.int .i64)] [.cell false .str] (fun a=>fB N n a)
def fC (N:Nat): ∀ n,Spec Tryz.prog 141 (bV N n)
 | 0=>Afs (C:=ctx Tryz.prog [] []) (fn:=f141) (MG (gs:=[]) trivial)
 | n+1=>VN (C:=ctx Tryz.prog ((141,bV N n)::(ksp [])) []) (L:=⟨[],[]⟩) (fn:=f141) (N:=N) (MG ⟨fC N n,(NM _)⟩)
def Aar:Sig:=bV N N
def Ae0 (N:Nat):Spec Tryz.prog 141 (Aar N):=fC N N
def AcD:=J9 5 [Ag5] [Sq0] (Yn N) [] f5 N
def Ahk:=J9 208 [] [AoL] (fun _=>Acs N) [] f208 N
open Go.Proofs Go.Proofs.Tryz
def aA:=J9 227 [Ju] [Jt] (Tj N) [] f227 N
def AfP:=J9 11 [AoO] [Sq5] (VL N) [] f11 N
def AfQ:=J9 132 [Ju,Ju,Jt] [Jt] (fun a=>Y6 N a.1 a.2.1 a.2.2) [] f132 N
def ZE:=J9 87 [Jt] [Ju] (TW N) [] f87 N
def Aep:AvM:=[AvK 3 [4],AvK 22 [4,12,13,14]]
def AfA:Lk:=⟨[],[(22,⟨[(4,.c x64),(12,.c (xo 35840)),(13,.i),(14,.c x64)],[(35840,.arr 5 false Aw)]⟩,[(0,⟨[(4,.c x64)],[]⟩)])]⟩
def AfB:=JP 88 [Ju] [Jt,JV] (Um N) [] Aep AfA f88 N
def VM:=J9 35 [.cell false .ptr] [JV] (XI N) [] f35 N
def zQ:AvM:=[AvK 3 [],AvK 11 [2,3,20,21],AvK 18 [2,3,20,21],AvK 19 [2,3,5,8,20,21,41,42,43],AvK 38 [2,3,5,20,21,41,42,43],AvK 54 [2,3,5,7,8,20,21,41,42,43,51,52,53]]
def Abt:Lk:=⟨[],[(18,⟨[(2,.c AB),(3,.c AQ),(20,.i),(21,.c x64)],[(Avm,.box [Bj]),(Avo,.box [Bj])]⟩,[(0,⟨[],[]⟩)]),(38,⟨[(2,.c AB),(3,.c AQ),(5,.i),(20,.i),(21,.i),(41,.i),(42,.i),(43,.c x64)],[(Avm,.box [Bj]),(Avo,.box [Bj])]⟩,[(2,⟨[(2,.c AB),(3,.c AQ),(20,.i),(21,.i)],[(Avm,.box [Bj]),(Avo,.box [Bj])]⟩)]),(54,⟨[(2,.c AB),(3,.c AQ),(5,.i),(7,.c (.c (.ptr 34560 0))),(8,.c xb),(20,.i),(21,.i),(41,.i),(42,.i),(43,.i),(51,.i),(52,.i),(53,.c x64)],[(Avm,.box [Bj]),(Avo,.box [Bj]),(34560,.box [xs,x64,xs])]⟩,[(4,⟨[(2,.c AB),(3,.c AQ),(5,.i),(8,.c xb),(20,.i),(21,.i),(41,.i),(42,.i),(43,.i)],[(Avm,.box [Bj]),(Avo,.box [Bj])]⟩)])]⟩
def WA:=JP 14 [Sq2,Sq2] [JV] (fun a=>Le N a.1 a.2) [] zQ Abt f14 N
def pF:AvM:=[AvK 3 [],AvK 18 [0,1,12,13]]
def rX:Lk:=⟨[],[(18,⟨[(0,.i),(1,.i),(12,.i),(13,.c x64)],[]⟩,[(0,⟨[],[]⟩)])]⟩
def rY:=JP 38 [Sq4,Sq4] [JV] (fun a=>NH N a.1 a.2) [] pF rX f38 N
open Go.Proofs Go.Proofs.Tryz
def kR:=J9 250 [] [AoM] (fun _=>Xr N) [] f250 N
def AiP:=J9 276 [.cell false (.int .u32),.cell false (.int .u64)] [.cell false (.int .u32)] (fun a=>Qk N a.1 a.2) [] f276 N
def Af2:=J9 277 [] [AuJ] (fun _=>Aaf N) [] f277 N
def Ur:=J9 82 [Ad3] [JV] (LK N) [] f82 N
def Ua:=J9 35 [Aaz] [JV] (L8 N) [] f35 N
def iF:=J9 110 [Jt] [Ju] (YQ N) [] f110 N
def Ajj:=J9 139 [Jt] [Ju] (wK N) [] f139 N
def Abj:=J9 206 [Jt] [Ju] (lF N) [] f206 N
open Go.Proofs Go.Proofs.Tryz
def AhP:=J9 207 [Jt] [Ju] (lD N) [] f207 N
def Ajn:AvM:=[AvK 3 [3],AvK 14 [3,10,11,12]]
def AlT:Lk:=⟨[],[(14,⟨[(3,.c (xo 35072)),(10,.i),(11,.i),(12,.c x64)],[(35072,.arr 5 false Aw)]⟩,[(0,⟨[(3,.c (xo 35072))],[(35072,.arr 5 false Aw)]⟩)])]⟩
def AcS:=JP 191 [Sq4] [Ju] (bQ N) [] Ajn AlT f191 N (cc:=[20])
def eX:=J9 135 [Ju,Jt] [Jt] (fun a=>RG N a.1 a.2) [] f135 N
def rV:=J9 84 [AuL] [Ju] (Zo N) [] f84 N
def AlH:AvM:=[AvK 3 [3],AvK 22 [0,3,4]]
def Aoa:Lk:=⟨[],[(22,⟨[(0,.i),(3,.c x64),(4,.c x64)],[]⟩,[(0,⟨[(3,.c x64)],[]⟩)])]⟩
def Aob:=JP 263 [Ju] [Jt] (AjU N) [] AlH Aoa f263 N (bb:=[7,11,12,16,20,21])
def AlK:=J9 264 [Jt,Jt] [JV] (fun a=>AhI N a.1 a.2) [] f264 N
def AfX:=JP 245 [.cell false (.int .u8)] [JV] (Aat N) [] [] AvN f245 N (bb:=[5,8,9,12,15,16,17,20,23,24])
def AeC:=J9 247 [.cell false (.int .u8)] [JV] (bY N) [] f247 N
open Go.Proofs Go.Proofs.Tryz
def Abc:=J9 47 [Sq0] [Sq1] (Vr N) [Me N] f47 N
def AhZ:AvM:=[AvK 3 [3],AvK 11 [3,6,9],AvK 14 [3,15,16,17],(19,⟨[6],[],[(none,6,Az)],[],[]⟩),(27,⟨[12],[],[],[(51456,1032768),(Av0,1032768)],[]⟩),AvK 49 [3,6,7,8],AvK 62 [3,6,7,9,10],(82,⟨[3,6,11],[],[(none,6,Az)],[],[]⟩),(102,⟨[12,74,75,76],[],[],[(51456,Av0),(56576,Av0)],[]⟩)]
def Ajq:Lk:=⟨[(49,⟨[(3,.i),(6,.c (xo 39168)),(7,.i),(8,.c x64)],[(39168,.arr 112 false Az)]⟩)],[(14,⟨[(3,.c xs),(15,.i),(16,.i),(17,.c x64)],[]⟩,[(0,⟨[(3,.c xs)],[]⟩)]),(62,⟨[(3,.i),(6,.c (xo 39168)),(7,.i),(9,.c (xo 41984)),(10,.c x64)],[(39168,.arr 112 false Az),(41984,.arr 5 false Aw)]⟩,[(2,⟨[(3,.i),(6,.c (xo 39168)),(9,.c (xo 41984))],[(39168,.arr 112 false Az),(41984,.arr 5 false Aw)]⟩)]),(82,⟨[(3,.i),(6,.c (xl Az)),(11,.c x64)],[]⟩,[(4,⟨[(6,.c (xl Az))],[]⟩)]),(102,⟨[(12,.c (xo Av0)),(74,.i),(75,.i),(76,.c x64)],[(Av0,.arr 5 false Aw)]⟩,[(6,⟨[(12,.c (xo 1032768))],[(1032768,.arr 5 false Aw)]⟩)])]⟩
def Aas:=JP 22 [Sq4] [Ju] (UR N) [AfO N] AhZ Ajq f22 N
def Ah8:AvM:=[(3,⟨[5],[([5],9,Ar,Avp)],[],[(Avi,Avp)],[]⟩),(11,⟨[0,1,5,6,7,8],[([5],9,Ar,Avl)],[],[(Avk,Avl)],[]⟩),(14,⟨[0,1,5,6],[([5],9,Ar,Avi)],[],[(44288,Avi),(Avl,Avi)],[]⟩),(33,⟨[0,1,5,6,7],[([5],9,Ar,Avj)],[],[(Avi,Avj)],[]⟩),(42,⟨[0,1,5,6,7,8,27,28,29],[([5,27],9,Ar,Avk)],[],[(Avj,Avk)],[]⟩)]
def Aje:Lk:=⟨[(33,⟨[(0,.c AL),(1,.i),(5,.c (xo Avj)),(6,.i),(7,.c xs)],[(0,.box BG),(Avj,.arr 9 false Ar)]⟩)],[(14,⟨[(0,.c AL),(1,.i),(5,.c (xo Avi)),(6,.c x64)],[(0,.box BG),(Avi,.arr 9 false Ar)]⟩,[(0,⟨[(5,.c (xo Avp))],[(0,.box BG),(Avp,.arr 9 false Ar)]⟩)]),(42,⟨[(0,.c AL),(1,.i),(5,.c (xo Avk)),(6,.i),(7,.i),(8,.c xb),(27,.c (xo Avk)),(28,.i),(29,.c x64)],[(0,.box BG),(Avk,.arr 9 false Ar)]⟩,[(2,⟨[(0,.c AL),(1,.i),(5,.c (xo Avl)),(6,.i),(7,.i),(8,.c xb)],[(0,.box BG),(Avl,.arr 9 false Ar)]⟩)])]⟩
def Ajf:=JP 49 [Sq0,JV] [Sq4] (fun a=>YP N a.1 a.2) [Me N,qL N] Ah8 Aje f49 N
def Abd:AvM:=[(3,⟨[3],[([3],152,(.str Ar),Avl)],[],[(Avi,Avl)],[]⟩),(11,⟨[0,3,4,5,6],[([3],152,(.str Ar),Avk)],[],[(Avj,Avk)],[]⟩),(14,⟨[0,3,4],[([3],152,(.str Ar),Avi)],[],[(43264,Avi),(Avk,Avi)],[]⟩),(34,⟨[0,3,4,5,6,23,24,25],[([3,23],152,(.str Ar),Avj)],[],[(Avi,Avj)],[]⟩)]
def AcG:Lk:=⟨[],[(14,⟨[(0,.c AL),(3,.c (xo Avi)),(4,.c x64)],[(0,.box BG),(Avi,.arr 152 false (.str Ar))]⟩,[(0,⟨[(3,.c (xo Avl))],[(0,.box BG),(Avl,.arr 152 false (.str Ar))]⟩)]),(34,⟨[(0,.c AL),(3,.c (xo Avj)),(4,.i),(5,.c AU),(6,.c xb),(23,.c (xo Avj)),(24,.i),(25,.c x64)],[(0,.box BG),(Avr,.box [xs,xs]),(Avj,.arr 152 false (.str Ar))]⟩,[(2,⟨[(0,.c AL),(3,.c (xo Avk)),(4,.i),(5,.c AU),(6,.c xb)],[(0,.box BG),(Avr,.box [xs,xs]),(Avk,.arr 152 false (.str Ar))]⟩)])]⟩
def AcH:=JP 50 [Sq0] [Sq7] (VZ N) [Me N,qL N] Abd AcG f50 N
def zN:AvM:=[AvK 17 [0,2,3]]
def AaZ:Lk:=⟨[(17,⟨[(0,.i),(2,.c AB),(3,.c xs)],[(Avm,.box BQ),(Av1,.JX 88 false Au)]⟩)],[]⟩
def Aba:=JP 97 [Jt] [Sq2] (QU N) [⟨141,Aar N,Ae0 N⟩] zN AaZ f97 N
def rO:AvM:=[AvK 3 [2,4,5],AvK 11 [2,4,5],AvK 14 [1,2,4,5,6],AvK 19 [2,4,11],AvK 27 [4,11],AvK 30 [2,4,5,7],AvK 62 [2,4,5,10,11,12],AvK 98 [2,4,11,204]]
def vK:Lk:=⟨[],[(14,⟨[(1,.i),(2,.c (.c (.Kq Avm 0 0))),(4,.c (.c (.Kq Avn 0 0))),(5,.c (.c (.Kq Avr 0 0))),(6,.c x64)],[(Avm,.arr 278 false Az),(Avn,.arr 278 false Az),(Avr,.arr 161 false Az)]⟩,[(0,⟨[(2,.c (.c (.Kq Avm 0 0))),(4,.c (.c (.Kq Avn 0 0))),(5,.c (.c (.Kq Avr 0 0)))],[(Avm,.arr 278 false Az),(Avn,.arr 278 false Az),(Avr,.arr 161 false Az)]⟩)]),(30,⟨[(2,.c (.c (.Kq Avm 0 0))),(4,.c (.c (.Kq Avn 0 0))),(5,.c (.c (.Kq Avr 0 0))),(7,.c x64)],[(Avm,.arr 278 false Az),(Avn,.arr 278 false Az),(Avr,.arr 161 false Az)]⟩,[(2,⟨[(2,.c (.c (.Kq Avm 0 0))),(4,.c (.c (.Kq Avn 0 0))),(5,.c (.c (.Kq Avr 0 0)))],[(Avm,.arr 278 false Az),(Avn,.arr 278 false Az),(Avr,.arr 161 false Az)]⟩)]),(62,⟨[(2,.c (.c (.Kq Avm 0 0))),(4,.c (.c (.Kq Avn 0 0))),(5,.c (.c (.Kq Avr 0 0))),(10,.c (.c (.Kq 35328 0 0))),(11,.c (.c (.Kq AvF 0 0))),(12,.c x64)],[(Avm,.arr 278 false Az),(Avn,.arr 278 false Az),(Avr,.arr 161 false Az),(35328,.arr 161 false Az),(AvF,.arr 278 false Az)]⟩,[(4,⟨[(2,.c (.c (.Kq Avm 0 0))),(4,.c (.c (.Kq Avn 0 0))),(11,.c (.c (.Kq AvF 0 0)))],[(Avm,.arr 278 false Az),(Avn,.arr 278 false Az),(AvF,.arr 278 false Az)]⟩)]),(98,⟨[(2,.c (.c (.Kq Avm 0 0))),(4,.c (.c (.Kq Avn 0 0))),(11,.c (.c (.Kq AvF 0 0))),(204,.c x64)],[(Avm,.arr 278 false Az),(Avn,.arr 278 false Az),(AvF,.arr 278 false Az)]⟩,[(6,⟨[(4,.c (.c (.Kq Avn 0 0))),(11,.c (.c (.Kq AvF 0 0)))],[(Avn,.arr 278 false Az),(AvF,.arr 278 false Az)]⟩)])]⟩
def YM:=JP 251 [AoM,AuK] [AoM] (fun a=>Ro N a.1 a.2) [AiP N,Af2 N] rO vK f251 N
def TQ:=J9 55 [Ad3] [Jt] (Lu N) [Ur N] f55 N
def eY:=J9 189 [Ju,Ju,Jt] [Jt] (fun a=>Uf N a.1 a.2.1 a.2.2) [eX N] f189 N
open Go.Proofs Go.Proofs.Tryz
def Vs:=JP 80 [Sq5] [Jt] (LZ N) [] [] AvN f80 N (bb:=[6,10,11,16,17,22])
def Ye:=J9 99 [] [.cell false (.sl 168 Tq4)] (fun _=>NY N) [] f99 N
def AdE:=J9 124 [Jt] [JV] (NZ N) [] f124 N
def Alc:=J9 248 [Jt] [Jt] (nO N) [] f248 N
def qK:=JP 322 [.cell false (.int .u8)] [JV] (gX N) [] [] AvN f322 N (bb:=[5,8,9,12,15,16])
def vN:=J9 323 [.cell false (.int .u8)] [JV] (Z9 N) [] f323 N
def Af4:=J9 304 [Ju] [Ju,Ju] (Aah N) [] f304 N
def Alh:=J9 305 [Ju,Jt] [JV] (fun a=>nX N a.1 a.2) [] f305 N
open Go.Proofs Go.Proofs.Tryz
def Aed:=J9 275 [Ju] [JV] (aW N) [] f275 N
def Aj4:=J9 237 [Jt] [Jt] (xZ N) [] f237 N
def AaA:=J9 143 [Sq6] [JV] (XW N) [] f143 N
def AaB:=J9 146 [Sq6] [JV] (XX N) [] f146 N
def AaC:=J9 149 [Sq6] [JV] (XY N) [] f149 N
def AaD:=J9 152 [Sq6] [JV] (XZ N) [] f152 N
def AaE:=J9 155 [Sq6] [JV] (Ya N) [] f155 N
def AaF:=J9 158 [Sq6] [JV] (PX N) [] f158 N
open Go.Proofs Go.Proofs.Tryz
def AaG:=J9 161 [Sq6] [JV] (Yb N) [] f161 N
def AaH:=J9 164 [Sq6] [JV] (Yc N) [] f164 N
def AaI:=J9 167 [Sq6] [JV] (Yd N) [] f167 N
def zB:=J9 170 [Sq6] [JV] (Xh N) [] f170 N
def zC:=J9 173 [Sq6] [JV] (Xi N) [] f173 N
def zD:=J9 176 [Sq6] [JV] (Xj N) [] f176 N
def zF:=J9 179 [Sq6] [JV] (Xk N) [] f179 N
def TK:Sig:=.of [.box [(false,.bool)]] [JV] (N7 N)
def Rx:iY 65 (TK N):=yH (yD (ksp []) []) AvN f65 N (MG (NM _))
open Go.Proofs Go.Proofs.Tryz
def Ajl:AvM:=[(3,⟨[4],[([4],3,A7,Avj)],[],[(Avi,Avj)],[]⟩),(26,⟨[4,18,19,20],[([4],3,A7,Avi)],[],[(40704,Avi)],[]⟩)]
def AlI:Lk:=⟨[],[(26,⟨[(4,.c (xo Avi)),(18,.i),(19,.i),(20,.c x64)],[(Avi,.arr 3 false A7)]⟩,[(0,⟨[(4,.c (xo Avj))],[(Avj,.arr 3 false A7)]⟩)])]⟩
def AcP:=JP 233 [Ju] [AuM] (Abi N) [⟨262,UA N,YX N⟩,Aob N,AlK N] Ajl AlI f233 N
def AeB:=J9 244 [.cell false (.int .u8)] [JV] (bW N) [AfX N,⟨246,Ut N,VO N⟩] f244 N
def Af5:AvM:=[AvK 3 [],AvK 18 [27,28,29]]
def Ahn:Lk:=⟨[],[(18,⟨[(27,.c (xo 39680)),(28,.i),(29,.c x64)],[(39680,.arr 5 false Aw)]⟩,[(0,⟨[],[]⟩)])]⟩
def Aho:=JP 319 [Ju] [JV] (Acw N) [qK N,vN N] Af5 Ahn f319 N (bb:=[8,12,13,17,18,25])
def Af6:AvM:=[AvK 3 [],AvK 18 [32,33,34]]
def Ahp:Lk:=⟨[],[(18,⟨[(32,.c (xo Av6)),(33,.i),(34,.c x64)],[(Av6,.arr 5 false Aw)]⟩,[(0,⟨[],[]⟩)])]⟩
def Ahq:=JP 301 [Ju] [JV] (nY N) [⟨303,UU N,WU N⟩,qK N,vN N,⟨246,Ut N,VO N⟩] Af6 Ahp f301 N (bb:=[9,13,14,18,19,26,27,30])
def Af3:AvM:=[AvK 3 [],AvK 26 [3,4,5,6]]
def Ahl:Lk:=⟨[],[(26,⟨[(3,.i),(4,.i),(5,.c xb),(6,.c x64)],[]⟩,[(0,⟨[],[]⟩)])]⟩
def Ahm:=JP 274 [Ju] [JV] (nV N) [Af4 N,Alh N] Af3 Ahl f274 N (bb:=[32,34,35,38,42,43])
def Aj2:AvM:=[AvK 3 [0,2,5,6,7,8,9],AvK 74 [0,2,5,6,7,8,9,50,51,52],AvK 101 [0,2,5,6,7,8]]
def Amw:Lk:=⟨[(101,⟨[(0,.i),(2,.c AB),(5,.c AU),(6,.i),(7,.c x64),(8,.c x64)],[(Avm,.box BK),(Avr,.box BK)]⟩)],[(74,⟨[(0,.i),(2,.c AB),(5,.c AU),(6,.i),(7,.c x64),(8,.i),(9,.i),(50,.c (xo 45568)),(51,.i),(52,.c x64)],[(Avm,.box BK),(Avr,.box BK),(45568,.arr 5 false Aw)]⟩,[(0,⟨[(0,.i),(2,.c AB),(5,.c AU),(6,.i),(7,.c x64),(8,.i),(9,.i)],[(Avm,.box BK),(Avr,.box BK)]⟩)])]⟩
def qG:=JP 193 [Ju] [Sq5,Ju,Jt] (WE N) [Aj4 N] Aj2 Amw f193 N
def AbS:AvM:=[AvK 3 [2],AvK 10 [0,2,6,7,8]]
def AdD:Lk:=⟨[],[(10,⟨[(0,.i),(2,.c AB),(6,.i),(7,.i),(8,.c x64)],[(Avm,.box BL)]⟩,[(0,⟨[(2,.c AB)],[(Avm,.box BL)]⟩)])]⟩
def jJ:=JP 205 [Ju] [AuN,JV] (OV N) [Ye N] AbS AdD f205 N
def uT (N n:Nat):Sig:=.of [Sq6] [.cell false .bool] (kE N n)
def AbY (N:Nat):VP Tryz.prog (uT N):=Yi (Js:=[Sq6]) (J7:=[.cell false .bool]) (l:=[(143,fun a=>XW N a),(146,fun a=>XX N a),(149,fun a=>XY N a),(152,fun a=>XZ N a),(155,fun a=>Ya N a),(158,fun a=>PX N a),(161,fun a=>Yb N a),(164,fun a=>Yc N a),(167,fun a=>Yd N a),(170,fun a=>Xh N a),(173,fun a=>Xi N a),(176,fun a=>Xj N a),(179,fun a=>Xk N a)]) ⟨(AaA N).h,(AaB N).h,(AaC N).h,(AaD N).h,(AaE N).h,(AaF N).h,(AaG N).h,(AaH N).h,(AaI N).h,(zB N).h,(zC N).h,(zD N).h,(zF N).h,trivial⟩
open Go.Proofs Go.Proofs.Tryz
def Ah7:AvM:=[(3,⟨[2,3],[],[],[(33637,Avl),(Avi,Avl)],[]⟩),(11,⟨[0,2,3,4,5],[([5],90,Tq0,Avk)],[],[(33637,Avu),(Avj,Avk),(Avq,Avu)],[]⟩),(14,⟨[0,2,3,4],[],[],[(33637,Avi),(44288,Avi)],[]⟩),(30,⟨[0,2,3,4,5,6],[([5],90,Tq0,Avj)],[],[(33637,Avq),(43008,Avj),(Avi,Avq)],[]⟩)]
def Ajc:Lk:=⟨[],[(14,⟨[(0,.c AL),(2,.c AB),(3,.c AQ),(4,.c x64)],[(0,.box BG),(Avm,.box BQ),(Av1,.JX 88 false Au),(Avo,.box [(xo Avi)]),(Avi,.arr 88 false Au)]⟩,[(0,⟨[(2,.c AB),(3,.c AQ)],[(0,.box BG),(Avm,.box BQ),(Av1,.JX 88 false Au),(Avo,.box [(xo Avl)]),(Avl,.arr 88 false Au)]⟩)]),(30,⟨[(0,.c AL),(2,.c AB),(3,.c AQ),(4,.i),(5,.c (xo Avj)),(6,.c x64)],[(0,.box BG),(Avm,.box BQ),(Av1,.JX 88 false Au),(Avo,.box [(xo Avq)]),(Avj,.arr 90 false Tq0),(Avq,.arr 88 false Au)]⟩,[(2,⟨[(0,.c AL),(2,.c AB),(3,.c AQ),(4,.i),(5,.c (xo Avk))],[(0,.box BG),(Avm,.box BQ),(Av1,.JX 88 false Au),(Avo,.box [(xo Avu)]),(Avk,.arr 90 false Tq0),(Avu,.arr 88 false Au)]⟩)])]⟩
def iD:=JP 18 [Sq0] [Sq2] (WN N) [Me N,Abc N] Ah7 Ajc f18 N
def Y3:=J9 7 [Jt] [Ju] (P6 N) [TY N,Aas N] f7 N
def nR:AvM:=[(3,⟨[0,4],[],[(none,4,Aw)],[],[]⟩),AvK 13 [0,1],(22,⟨[0,4],[],[(none,4,Aw)],[],[41728]⟩)]
def rJ:Lk:=⟨[(13,⟨[(0,.c AL),(1,.i)],[(0,.box Bz)]⟩)],[(22,⟨[(0,.c AL),(4,.c Bl)],[(0,.box Bz)]⟩,[(0,⟨[(0,.c AL),(4,.c Bl)],[(0,.box Bz)]⟩)])]⟩
def rM:=JP 209 [AoL,Ju] [] (fun a=>SQ N a.1 a.2) [kR N,YM N] nR rJ f209 N
def vJ:AvM:=[(3,⟨[3,4,5],[],[],[(41984,Avk),(Avj,Avk)],[Avk]⟩),AvK 11 [3,4],AvK 19 [3],AvK 27 [7],(29,⟨[3,4,5],[([4],5,Aw,Avi)],[],[(41216,Avi)],[]⟩),(34,⟨[3,4,5],[],[],[(41984,Avj),(43776,Avj)],[]⟩),(46,⟨[3,4,5,6],[],[],[(47616,Avk)],[]⟩),(58,⟨[3,4],[],[(none,4,Aw)],[],[]⟩),(78,⟨[7,68,69],[([7],5,Aw,Av0)],[],[(54528,Av0)],[]⟩)]
def zJ:Lk:=⟨[(29,⟨[(3,.c (.c (.Kq Avo 0 0))),(4,.c (xo Avi)),(5,.c x64)],[(0,.box Bz),(Avo,.arr 278 false Az),(Avi,.arr 5 false Aw)]⟩)],[(34,⟨[(3,.c (.c (.Kq Avo 0 0))),(4,.c (xo Avj)),(5,.i)],[(0,.box Bz),(Avo,.arr 278 false Az),(Avj,.arr 5 false Aw)]⟩,[(0,⟨[(3,.c (.c (.Kq Avo 0 0))),(4,.c (xo Avk)),(5,.i)],[(0,.box Bz),(Avo,.arr 278 false Az),(Avk,.arr 5 true Aw)]⟩)]),(46,⟨[(3,.c (.c (.Kq Avo 0 0))),(4,.c (xo Avk)),(5,.i),(6,.c x64)],[(0,.box Bz),(Avo,.arr 278 false Az),(Avk,.arr 5 true Aw)]⟩,[(2,⟨[(3,.c (.c (.Kq Avo 0 0))),(4,.c (xo Avk))],[(0,.box Bz),(Avo,.arr 278 false Az),(Avk,.arr 5 true Aw)]⟩)]),(58,⟨[(3,.c (.c (.Kq Avo 0 0))),(4,.c Bl)],[(0,.box Bz),(Avo,.arr 278 false Az)]⟩,[(4,⟨[(3,.c (.c (.Kq Avo 0 0)))],[(0,.box Bz),(Avo,.arr 278 false Az)]⟩)]),(78,⟨[(7,.c (xo Av0)),(68,.i),(69,.c x64)],[(0,.box Bz),(Av0,.arr 5 false Aw)]⟩,[(6,⟨[(7,.c (xo Av0))],[(0,.box Bz),(Av0,.arr 5 false Aw)]⟩)])]⟩
def zK:=JP 210 [AoL] [Ju] (Ux N) [kR N,YM N] vJ zJ f210 N
def SH:Sig:=.of [Ju] [JV] (OA N)
def QV:iY 184 (SH N):=yH (yD (ksp [AcP N]) []) AvN f184 N (MG (NM _))
def AeU (N n:Nat):Sig:=.of [.cell false (.int .u8)] [.cell false .bool] (AjM N n)
def AkL (N:Nat):VP Tryz.prog (AeU N):=Yi (Js:=[.cell false (.int .u8)]) (J7:=[.cell false .bool]) (l:=[(244,fun a=>bW N a),(247,fun a=>bY N a)]) ⟨(AeB N).h,(AeC N).h,trivial⟩
def AiR:AvM:=[AvK 3 [],AvK 18 [9,10,11]]
def Alg:Lk:=⟨[],[(18,⟨[(9,.i),(10,.i),(11,.c x64)],[]⟩,[(0,⟨[],[]⟩)])]⟩
def Z8:=JP 298 [Ju] [JV] (SC N) [⟨262,UA N,YX N⟩,Aho N] AiR Alg f298 N
def WV:=J9 113 [Ju] [Sq5,Jt] (RJ N) [qG N] f113 N
open Go.Proofs Go.Proofs.Tryz
def lL:AvM:=[AvK 3 [],AvK 18 [0,1,12,13]]
def pJ:Lk:=⟨[],[(18,⟨[(0,.i),(1,.i),(12,.i),(13,.c x64)],[]⟩,[(0,⟨[],[]⟩)])]⟩
def pK:=JP 39 [Sq7,Sq7] [JV] (fun a=>Qp N a.1 a.2) [] lL pJ f39 N
def dK:AvM:=[AvK 3 [],AvK 18 [0,1,12,13]]
def iM:Lk:=⟨[],[(18,⟨[(0,.i),(1,.i),(12,.i),(13,.c x64)],[]⟩,[(0,⟨[],[]⟩)])]⟩
def iO:=JP 43 [.cell false (.sl 108 Tq3),.cell false (.sl 108 Tq3)] [JV] (fun a=>Pn N a.1 a.2) [] dK iM f43 N
def Abu:=JP 92 [Sq5] [Jt] (Vu N) [] [] AvN f92 N (bb:=[6,10,11,16,17,22])
def Aia:=J9 93 [Ju] [Jt,JV] (ZF N) [] f93 N
def Adf:AvM:=[(3,⟨[4,5],[([4],3,A7,Avj)],[],[(Avi,Avj)],[]⟩),(26,⟨[0,4,5,6],[([4],3,A7,Avi)],[],[(Av6,Avi)],[]⟩)]
def Ae2:Lk:=⟨[],[(26,⟨[(0,.i),(4,.c (xo Avi)),(5,.c x64),(6,.c x64)],[(Avi,.arr 3 false A7)]⟩,[(0,⟨[(4,.c (xo Avj)),(5,.c x64)],[(Avj,.arr 3 false A7)]⟩)])]⟩
def Ae3:=JP 140 [Ju] [Ag5,Jt] (xG N) [] Adf Ae2 f140 N
open Go.Proofs Go.Proofs.Tryz
def Aet:AvM:=[(3,⟨[3],[([3],3,A7,Avp)],[],[(Avi,Avp)],[]⟩),AvK 7 [0,3,4],AvK 11 [],(14,⟨[0,3,4],[([3],3,A7,Avi)],[],[(42240,Avi)],[]⟩),(30,⟨[0,3,4,5],[([3],3,A7,Avj)],[],[(Avi,Avj)],[]⟩)]
def AfF:Lk:=⟨[],[(14,⟨[(0,.i),(3,.c (xo Avi)),(4,.c x64)],[(Avi,.arr 3 false A7)]⟩,[(0,⟨[(3,.c (xo Avp))],[(Avp,.arr 3 false A7)]⟩)]),(30,⟨[(0,.i),(3,.c (xo Avj)),(4,.c x64),(5,.c x64)],[(Avj,.arr 3 false A7)]⟩,[(1,⟨[(0,.i),(3,.c (xo 42240)),(4,.c x64)],[(42240,.arr 3 false A7)]⟩),(2,⟨[],[]⟩)])]⟩
def AfG:=JP 199 [Ju] [Ag5] (Aap N) [] Aet AfF f199 N
def Rn:=J9 118 [QW,Jt] [Sq5,JV] (fun a=>LV N a.1 a.2) [] f118 N
def lH:=J9 240 [Ju] [JV,Jt] (bU N) [] f240 N
def Px:=J9 33 [QW] [Jt] (Lc N) [] f33 N
def AlW:=J9 252 [Ju,Jt] [JV] (fun a=>oP N a.1 a.2) [] f252 N
def QL:=J9 218 [QW] [Jt] (KL N) [] f218 N
def dF:=J9 221 [Sq4,Ad4] [] (fun a=>Qx N a.1 a.2) [] f221 N
def dE:=J9 222 [Sq4,Ad4] [] (fun a=>Qw N a.1 a.2) [] f222 N
open Go.Proofs Go.Proofs.Tryz
def AgK (N n:Nat):Sig:=.of [Sq4,Ad4] [] (AmX N n)
def AmY (N:Nat):VP Tryz.prog (AgK N):=Yi (Js:=[Sq4,Ad4]) (J7:=[]) (l:=[(222,fun a=>Qw N a.1 a.2)]) ⟨(dE N).h,trivial⟩
def lK:AvM:=[AvK 3 [],AvK 18 [0,1,12,13]]
def oW:Lk:=⟨[],[(18,⟨[(0,.i),(1,.i),(12,.i),(13,.c x64)],[]⟩,[(0,⟨[],[]⟩)])]⟩
def TV:=JP 40 [.cell false (.sl 103 Tq1),.cell false (.sl 103 Tq1)] [JV] (fun a=>L6 N a.1 a.2) [WA N] lK oW f40 N
open Go.Proofs Go.Proofs.Tryz
def wZ:=J9 122 [Ju,Jt] [JV] (fun a=>Vt N a.1 a.2) [] f122 N
def zM:=J9 107 [Sq5] [Ju] (U0 N) [] f107 N
def AfH:AvM:=[(3,⟨[4,5],[([4],3,A7,Avj)],[],[(Avi,Avj)],[]⟩),(26,⟨[4,5,14,15,16],[([4],3,A7,Avi)],[],[(40448,Avi)],[]⟩)]
def AhM:Lk:=⟨[],[(26,⟨[(4,.c (xo Avi)),(5,.c x64),(14,.c (xo 36352)),(15,.i),(16,.c x64)],[(36352,.arr 5 false Aw),(Avi,.arr 3 false A7)]⟩,[(0,⟨[(4,.c (xo Avj)),(5,.c x64)],[(Avj,.arr 3 false A7)]⟩)])]⟩
def wQ:=JP 136 [Ju] [Ag5,Jt] (TT N) [] AfH AhM f136 N
def jE:=J9 28 [] [AuP] (fun _=>Ti N) [] f28 N
def aN:=J9 76 [QW] [Sq5,Jt] (Tn N) [] f76 N
def XN (N:Nat):WY Tryz.prog 33 false (.of [fG,QW] [.cell false (.int .i64)] (fun a=>QK N a.1 a.2)):=Qq (C:=ctx Tryz.prog (ksp []) []) (L:=⟨[],[]⟩) (fn:=f33) (N:=N) (MG (NM _)) (by kernel_rfl) (by kernel_rfl) (fun a=>by kernel_rfl)
def AcZ:AvM:=[AvK 3 [4],AvK 30 [0,4,42,43]]
def Aey:Lk:=⟨[],[(30,⟨[(0,.i),(4,.c x64),(42,.i),(43,.c x64)],[]⟩,[(0,⟨[(4,.c x64)],[]⟩)])]⟩
def lI:=JP 115 [Ju] [Jt,Jt] (UM N) [] AcZ Aey f115 N (bb:=[8,12,16,20,21,25,29,30,31,32])
def Ab8:AvM:=[AvK 3 [],AvK 10 [0,3]]
def Adv:Lk:=⟨[],[(10,⟨[(0,.i),(3,.c x64)],[]⟩,[(0,⟨[],[]⟩)])]⟩
def Adw:=JP 238 [.cell false (.sl 129 Tq5)] [JV] (qR N) [] Ab8 Adv f238 N
open Go.Proofs Go.Proofs.Tryz
def LJ:=J9 58 [.box [(false,.bool)],Ju,Jt] [Ju] (fun a=>JZ N a.1 a.2.1 a.2.2) [] f58 N
def Aj3:AvM:=[AvK 3 [0,1,6],AvK 22 [0,1,6,21,22,23],(77,⟨[1,9],[],[],[(45568,Avk),(47616,Avk),(49664,Avk),(52480,Avk)],[]⟩)]
def Amx:Lk:=⟨[(77,⟨[(1,.i),(9,.c (xo Avk))],[(Avk,.arr 5 false Aw)]⟩)],[(22,⟨[(0,.i),(1,.i),(6,.c x64),(21,.i),(22,.i),(23,.c x64)],[]⟩,[(0,⟨[(0,.i),(1,.i),(6,.c x64)],[]⟩)])]⟩
def Qc:=JP 100 [Jt,Sq4] [Ju,Jt] (fun a=>Ko N a.1 a.2) [⟨182,Yv N,Zt N⟩] Aj3 Amx f100 N
def wY:AvM:=[AvK 3 [0,3],(11,⟨[5],[([5],5,Aw,Avl)],[],[(Avk,Avl)],[]⟩),AvK 14 [0,3,4],(34,⟨[0,3,5,18,19],[([5],5,Aw,Avk)],[],[(41216,Avk)],[]⟩)]
def zO:Lk:=⟨[],[(14,⟨[(0,.i),(3,.c x64),(4,.c x64)],[]⟩,[(0,⟨[(0,.i),(3,.c x64)],[]⟩)]),(34,⟨[(0,.i),(3,.i),(5,.c (xo Avk)),(18,.i),(19,.c x64)],[(Avk,.arr 5 false Aw)]⟩,[(2,⟨[(5,.c (xo Avl))],[(Avl,.arr 5 false Aw)]⟩)])]⟩
def Zq:=JP 103 [Jt] [Ju] (Q5 N) [] wY zO f103 N
def Zp:=J9 187 [JV] [Ju] (U1 N) [] f187 N
def Abm:AvM:=[AvK 3 [0,4],AvK 11 [5],AvK 18 [0,4],AvK 38 [0,5,34,35]]
def Ada:Lk:=⟨[],[(18,⟨[(0,.i),(4,.c x64)],[]⟩,[(0,⟨[(0,.i),(4,.c x64)],[]⟩)]),(38,⟨[(0,.i),(5,.c (xo 38912)),(34,.i),(35,.c x64)],[(38912,.arr 5 false Aw)]⟩,[(2,⟨[(5,.c (xo 38912))],[(38912,.arr 5 false Aw)]⟩)])]⟩
def fA:=JP 214 [Jt] [Ju,Jt] (Ol N) [] Abm Ada f214 N
def AlJ:AvM:=[AvK 3 [0,1,5],AvK 10 [0,1,5],(11,⟨[0,1],[],[],[(0,Avl),(Avk,Avl)],[]⟩),(22,⟨[0,1,6],[],[],[(0,Avk),(40704,Avk)],[]⟩)]
def Aoc:Lk:=⟨[],[(10,⟨[(0,.c (xo 0)),(1,.i),(5,.c x64)],[(0,.arr 5 true Aw)]⟩,[(0,⟨[(0,.c (xo 0)),(1,.i),(5,.c x64)],[(0,.arr 5 true Aw)]⟩)]),(22,⟨[(0,.c (xo Avk)),(1,.i),(6,.c x64)],[(Avk,.arr 5 true Aw)]⟩,[(2,⟨[(0,.c (xo Avl)),(1,.i)],[(Avl,.arr 5 true Aw)]⟩)])]⟩
def Aod:=JP 235 [AsI,Jt] [AsI] (fun a=>Aeu N a.1 a.2) [] AlJ Aoc f235 N
def qJ:=J9 254 [Jt] [Jt] (VH N) [] f254 N
def AgX:AvM:=[AvK 3 [3],AvK 14 [3,9,10,11]]
def AiG:Lk:=⟨[],[(14,⟨[(3,.c (xo Av2)),(9,.i),(10,.i),(11,.c x64)],[(Av2,.mp Ar A7)]⟩,[(0,⟨[(3,.c (xo Av2))],[(Av2,.mp Ar A7)]⟩)])]⟩
def AiH:=JP 183 [.cell false (.sl 108 Tq3)] [AuO] (dU N) [] AgX AiG f183 N
open Go.Proofs Go.Proofs.Tryz
def Ll:=J9 59 [.box [(false,.bool)],Jt,Sq4] [Ju] (fun a=>JB N a.1 a.2.1 a.2.2) [Qc N,LJ N] f59 N
def lJ:=J9 106 [Ju,Jt] [Ju,Jt] (fun a=>UN N a.1 a.2) [wZ N] f106 N
def MX:=J9 71 [QW,Jt] [Sq5,Jt] (fun a=>LX N a.1 a.2) [aN N] f71 N
def AfD:AvM:=[(3,⟨[7],[([7],9,Ar,Avj)],[],[(Avi,Avj)],[]⟩),(34,⟨[7,36,37,38],[([7],9,Ar,Avi)],[],[(45056,Avi)],[]⟩)]
def AhG:Lk:=⟨[],[(34,⟨[(7,.c (xo Avi)),(36,.c (xo 41728)),(37,.i),(38,.c x64)],[(41728,.arr 3 false A7),(Avi,.arr 9 false Ar)]⟩,[(0,⟨[(7,.c (xo Avj))],[(Avj,.arr 9 false Ar)]⟩)])]⟩
def X4:=JP 121 [Ju] [Ju,Jt] (TS N) [AfG N,⟨200,lQ N,zU N⟩,⟨182,Yv N,Zt N⟩] AfD AhG f121 N
def iJ:=J9 78 [Ju] [Ju,Jt,Jt] (WS N) [wZ N] f78 N
def uS:AvM:=[AvK 29 [8,9]]
def zG:Lk:=⟨[(29,⟨[(8,.i),(9,.c x64)],[(0,.box [Bh])]⟩)],[]⟩
def zH:=JP 212 [QW,Jt] [JV,Jt] (fun a=>dS N a.1 a.2) [Rn N,lH N] uS zG f212 N
def Wl:=J9 213 [Ju] [Jt,Jt] (QT N) [lI N] f213 N
def AgJ (N n:Nat):Sig:=.of [Sq4,Ad4] [] (AmV N n)
def AmW (N:Nat):VP Tryz.prog (AgJ N):=Yi (Js:=[Sq4,Ad4]) (J7:=[]) (l:=[(221,fun a=>Qx N a.1 a.2)]) ⟨(dF N).h,trivial⟩
open Go.Proofs Go.Proofs.Tryz
def Aj1:AvM:=[(3,⟨[4],[([4],129,Tq5,Avj)],[],[(Avi,Avj)],[]⟩),(10,⟨[0,4],[([4],129,Tq5,Avi)],[],[(38400,Avi)],[]⟩)]
def Amv:Lk:=⟨[],[(10,⟨[(0,.c xs),(4,.c (xo Avi))],[(Avi,.arr 129 false Tq5)]⟩,[(0,⟨[(4,.c (xo Avj))],[(Avj,.arr 129 false Tq5)]⟩)])]⟩
def Pq:=JP 114 [Ju] [.cell false (.sl 129 Tq5),Jt] (NI N) [qG N] Aj1 Amv f114 N
def Z4 (N:Nat):WY Tryz.prog 72 true (.of [fG,QW] [.cell false (.int .i64)] (fun a=>NF N a.1 a.2)):=Qq (C:=ctx Tryz.prog (ksp [MX N,lI N]) []) (L:=⟨[],[]⟩) (fn:=f72) (N:=N) (MG (NM _)) (by kernel_rfl) (by kernel_rfl) (fun a=>by kernel_rfl)
def kU:=J9 196 [Akq,Sq5] [Jt] (fun a=>PS N a.1 a.2) [iJ N,Vs N] f196 N
def AfL:AvM:=[AvK 3 [8],AvK 46 [4,8,35,36]]
def AhS:Lk:=⟨[],[(46,⟨[(4,.i),(8,.c x64),(35,.i),(36,.c x64)],[]⟩,[(0,⟨[(8,.c x64)],[]⟩)])]⟩
def wX:=JP 215 [Ju] [Jt,Jt] (TU N) [iJ N,AlW N] AfL AhS f215 N
def Xf:=J9 219 [QW] [Ju,Jt] (RD N) [MX N,X4 N] f219 N
def Yg:AvM:=[AvK 29 [1,4,5]]
def YG:Lk:=⟨[(29,⟨[(1,.c AX),(4,.c x64),(5,.i)],[(0,.box BF),(256,.box [Bh]),(AvG,.box [AL,(.c (.ptr 256 0))])]⟩)],[]⟩
def YH (N:Nat):WY Tryz.prog 32 true (.of [fG,QW] [.cell false (.int .i64)] (fun a=>Nb N a.1 a.2)):=Qq (C:=ctx Tryz.prog (ksp [MX N,iJ N]) Yg) (L:=YG) (fn:=f32) (N:=N) (MG (NM _)) (by kernel_rfl) (by kernel_rfl) (fun a=>by kernel_rfl)
def RH:=J9 85 [Sq4] [Ju] (Ny N) [Aas N] f85 N
def pG:=J9 41 [Sq9,Sq9] [JV] (fun a=>Qo N a.1 a.2) [TV N] f41 N
open Go.Proofs Go.Proofs.Tryz
def rW:AvM:=[AvK 3 [],AvK 18 [0,1,12,13]]
def xI:Lk:=⟨[],[(18,⟨[(0,.i),(1,.i),(12,.i),(13,.c x64)],[]⟩,[(0,⟨[],[]⟩)])]⟩
def xJ:=JP 42 [.cell false (.sl 154 Tq2),.cell false (.sl 154 Tq2)] [JV] (fun a=>Ns N a.1 a.2) [TV N,WA N] rW xI f42 N (bb:=[28,40,41,53,54,67])
open Go.Proofs Go.Proofs.Tryz
def AfR:AvM:=[AvK 3 [5],AvK 10 [0,1,2,4,5,13]]
def Aib:Lk:=⟨[],[(10,⟨[(0,.i),(1,.i),(2,.i),(4,.i),(5,.c xs),(13,.c x64)],[]⟩,[(0,⟨[(5,.c xs)],[]⟩)])]⟩
def xH:=JP 133 [Ju,Jt,Jt,Jt,Jt,Ju] [Ju] (fun a=>XC N a.1 a.2.1 a.2.2.1 a.2.2.2.1 a.2.2.2.2.1 a.2.2.2.2.2) [TY N,ZE N,RH N] AfR Aib f133 N
def Ae8:=J9 134 [Ju,Jt,Jt] [Ju] (fun a=>XB N a.1 a.2.1 a.2.2) [TY N,ZE N,RH N] f134 N
def Aby:=JP 15 [Sq6,Sq6] [JV] (fun a=>OB N a.1 a.2) [rY N,pK N,TV N,pG N,xJ N,iO N] [] AvN f15 N (bb:=[10,16,17,23,24,30,31,37,38,44,45,51,52,58,59,65,66,72,73,79,80,86,87,93,94,100,101,107,108,114,115,121,122,128])
open Go.Proofs Go.Proofs.Tryz
def Aga:AvM:=[AvK 3 [],AvK 18 [1,5]]
def Aiq:Lk:=⟨[],[(18,⟨[(1,.i),(5,.c xs)],[]⟩,[(0,⟨[],[]⟩)])]⟩
def Zl (N n:Nat):Sig:=.of [Sq5,.cell false (.int .i64)] [.cell false (.int .i64)] (fun a=>S9 N n a.1 a.2)
def cO (N:Nat): ∀ n,Spec Tryz.prog 234 (Zl N n)
 | 0=>Afs (C:=ctx Tryz.prog [] []) (fn:=f234) (MG (gs:=[]) trivial)
 | n+1=>VN (C:=ctx Tryz.prog ((234,Zl N n)::(ksp [qG N])) Aga) (L:=Aiq) (fn:=f234) (N:=N) (MG ⟨cO N n,(NM _)⟩)
def y7:Sig:=Zl N N
def Adx (N:Nat):Spec Tryz.prog 234 (y7 N):=cO N N
def Md:=J9 61 [.box [(false,.bool)],Sq4] [Ju] (fun a=>JS N a.1 a.2) [Ll N] f61 N
def Wq:=J9 62 [.box [(false,.bool)],Jt] [Ju] (fun a=>N8 N a.1 a.2) [Zq N,Ll N] f62 N
def zI:=J9 211 [.box [(false,.bool)],Jt,JV] [Ju] (fun a=>Xn N a.1 a.2.1 a.2.2) [Zp N,Ll N] f211 N
def uI:=J9 147 [.box [(false,.bool)],Sq6] [Ju] (fun a=>Rj N a.1 a.2) [fA N,LJ N,Ll N] f147 N
def AfE:AvM:=[(3,⟨[5],[],[],[(37888,Avj),(Avi,Avj)],[]⟩),(26,⟨[5,22,23,24],[],[],[(37888,Avi),(40448,Avi)],[]⟩)]
def AhH:Lk:=⟨[],[(26,⟨[(5,.c (xo Avi)),(22,.i),(23,.i),(24,.c x64)],[(Avi,.arr 5 true Aw)]⟩,[(0,⟨[(5,.c (xo Avj))],[(Avj,.arr 5 true Aw)]⟩)])]⟩
def X5:=JP 186 [Ju] [Ju,Jt] (Sj N) [AcP N,Aod N] AfE AhH f186 N
def mX:=J9 171 [.box [(false,.bool)],Sq6] [Ju] (fun a=>Qh N a.1 a.2) [Ll N] f171 N
def pR:=J9 66 [Aaz] [Jt] (Sr N) [Ua N,TQ N] f66 N
open Go.Proofs Go.Proofs.Tryz
def gB:=J9 174 [.box [(false,.bool)],Sq6] [Ju] (fun a=>OX N a.1 a.2) [Ll N,Md N] f174 N
def AaR:AvM:=[AvK 49 [1,6]]
def Aci:Lk:=⟨[(49,⟨[(1,.c AX),(6,.c (xo 36864))],[(AvG,.box [xs,xb,xs]),(36864,.arr 9 false Ar)]⟩)],[]⟩
def Acj:=JP 102 [AoN] [Ju,Jt] (Ud N) [X5 N,Qc N,Zp N] AaR Aci f102 N
def XO:=J9 108 [] [Ju] (fun _=>Py N) [X5 N,Qc N] f108 N
def O5:Sig:=.of [Ju,Jt] [Sq5,Jt] (fun a=>Pv N a.1 a.2)
def Rl:iY 69 (O5 N):=yH (yD (ksp [WV N]) []) AvN f69 N (MG (NM _))
def Tm (N:Nat):Alt:=.of [.cell false .str] [QW,.cell false (.int .i64)] [.cell false .ptr,.cell false (.int .i64)] (fun a=>Qi N a)
def Wp (N:Nat):Spec Tryz.prog 70 (Tm N).1/\Spec Tryz.prog 70 (Tm N).2.1:=TE (C:=ctx Tryz.prog (ksp [Pq N]) []) (L:=⟨[],[]⟩) (fn:=f70) (N:=N) (MG (NM _)) (by kernel_rfl) (by kernel_rfl) (fun a=>by kernel_rfl)
def aO:AvM:=[AvK 85 [2,4,5,7]]
def dG:Lk:=⟨[(85,⟨[(2,.c AB),(4,.c AP),(5,.i),(7,.i)],[(Avm,.box [A8,AA,A8]),(Avn,.box [A8,AA,A8])]⟩)],[]⟩
def dH:=JP 239 [Sq5] [Sq1,Jt] (WH N) [Pq N,X4 N] aO dG f239 N
def UJ:=J9 77 [Sq5] [Jt] (Oh N) [Pq N,X4 N] f77 N
def AaQ:AvM:=[AvK 89 [2,4,5,6]]
def Acg:Lk:=⟨[(89,⟨[(2,.c AB),(4,.c AP),(5,.c AU),(6,.c Bh)],[(Avm,.box [A8,AO,A8]),(Avn,.box [A8,AO,A8]),(Avr,.box [xs,xb,A8])]⟩)],[]⟩
def Ach:=JP 197 [Sq5] [AoN,Jt] (QB N) [Pq N,X4 N,lH N] AaQ Acg f197 N
open Go.Proofs Go.Proofs.Tryz
def AiQ:=J9 272 [Ju] [JV] (vM N) [Z8 N] f272 N
def Aee:=J9 273 [Ju] [JV] (aX N) [⟨302,XP N,iT N⟩,Z8 N,⟨303,UU N,WU N⟩] f273 N
def Y7:Sig:=.of [Ju] [Jt] (Sz N)
def Yw:iY 185 (Y7 N):=yH (yD (ksp [WV N,⟨234,y7 N,Adx N⟩]) []) AvN f185 N (MG (NM _))
def rC:AvM:=[AvK 17 [0,3,5]]
def uF:Lk:=⟨[(17,⟨[(0,.c AL),(3,.c AQ),(5,.c xs)],[(0,.box [xb]),(Avo,.box Bv)]⟩)],[]⟩
def uG:=JP 144 [.box [(false,.bool)],Sq6] [Ju] (fun a=>Rh N a.1 a.2) [Wq N,zI N,Md N] rC uF f144 N
def Xg:=J9 216 [.box [(false,.bool)],Ju] [Ju] (fun a=>Q8 N a.1 a.2) [X5 N,LJ N,Ll N] f216 N
def mW:AvM:=[AvK 3 [0,5],AvK 14 [0,5,13,14,15]]
def rD:Lk:=⟨[],[(14,⟨[(0,.c AL),(5,.c (xo Av2)),(13,.c (xo 36096)),(14,.i),(15,.c x64)],[(0,.box [xb]),(Av2,.arr 9 false Ar),(36096,.arr 3 false A7)]⟩,[(0,⟨[(0,.c AL),(5,.c (xo Av2))],[(0,.box [xb]),(Av2,.arr 9 false Ar)]⟩)])]⟩
def rE:=JP 159 [.box [(false,.bool)],Sq6] [Ju] (fun a=>QI N a.1 a.2) [Zq N,Ll N,Md N] mW rD f159 N
def mV:=J9 162 [.box [(false,.bool)],Sq6] [Ju] (fun a=>Qg N a.1 a.2) [Wq N] f162 N
def dJ:=J9 104 [Sq1] [Ju,Jt] (O6 N) [X5 N,Qc N] f104 N
open Go.Proofs Go.Proofs.Tryz
def gG:AvM:=[(3,⟨[0,5],[([5],9,Ar,Avj)],[],[(Avi,Avj)],[]⟩),(14,⟨[0,5,9,10,11],[([5],9,Ar,Avi)],[],[(Av7,Avi)],[]⟩)]
def jR:Lk:=⟨[],[(14,⟨[(0,.c AL),(5,.c (xo Avi)),(9,.i),(10,.i),(11,.c x64)],[(0,.box [xb]),(Avi,.arr 9 false Ar)]⟩,[(0,⟨[(0,.c AL),(5,.c (xo Avj))],[(0,.box [xb]),(Avj,.arr 9 false Ar)]⟩)])]⟩
def jS:=JP 156 [.box [(false,.bool)],Sq6] [Ju] (fun a=>PM N a.1 a.2) [Xg N,Md N] gG jR f156 N
def AgS:AvM:=[AvK 3 [],AvK 30 [3,15,16,17]]
def AiF:Lk:=⟨[],[(30,⟨[(3,.c (xo 36352)),(15,.i),(16,.i),(17,.c x64)],[(36352,.mp Ar A7)]⟩,[(0,⟨[],[]⟩)])]⟩
def Aab:=JP 101 [.cell false (.sl 108 Tq3)] [Jt] (WJ N) [AiH N,⟨184,SH N,QV N⟩,⟨185,Y7 N,Yw N⟩] AgS AiF f101 N
def AaX:=J9 64 [Sq5] [Ju,Jt] (Tz N) [Vs N,zM N,lJ N,Qc N,XO N] f64 N
def Q7:Sig:=.of [.box [(false,.bool)],.box [(false,.str)],.box [(false,.str)]] [Ju] (fun a=>OJ N a.1 a.2.1 a.2.2)
def Aa4:iY 112 (Q7 N):=yH (yD (ksp [XO N,lJ N,LJ N,Ll N,Md N]) []) AvN f112 N (MG (NM _))
def TJ (N:Nat):Alt:=.of [.cell false .str,.cell false (.int .i64)] [QW,.cell false (.int .i64)] [.cell false .ptr,.cell false (.int .i64)] (fun a=>QA N a.1 a.2)
def UD (N:Nat):Spec Tryz.prog 27 (TJ N).1/\Spec Tryz.prog 27 (TJ N).2.1:=TE (C:=ctx Tryz.prog (ksp [⟨69,O5 N,Rl N⟩]) [] [(70,Tm N)]) (L:=⟨[],[]⟩) (fn:=f27) (N:=N) (MG (NM _) ⟨Wp N,trivial⟩) (by kernel_rfl) (by kernel_rfl) (fun a=>by kernel_rfl)
def dI:AvM:=[(3,⟨[6],[([6],90,Tq0,Avj)],[],[(Avi,Avj)],[]⟩),(42,⟨[6,26,27,28],[([6],90,Tq0,Avi)],[],[(43776,Avi)],[]⟩)]
def gU:Lk:=⟨[],[(42,⟨[(6,.c (xo Avi)),(26,.i),(27,.i),(28,.c x64)],[(Avi,.arr 90 false Tq0)]⟩,[(0,⟨[(6,.c (xo Avj))],[(Avj,.arr 90 false Tq0)]⟩)])]⟩
def gV:=JP 194 [Sq5] [.cell false (.sl 90 Tq0),Jt] (LY N) [Pq N,Adw N,dH N] dI gU f194 N
def Zf:=J9 195 [Akq,Sq5] [Jt] (fun a=>Nr N a.1 a.2) [UJ N] f195 N
def tZ:=J9 148 [Ju,V7] [Jt] (fun a=>QZ N a.1 a.2) [⟨69,O5 N,Rl N⟩,wX N] f148 N
end
end Go.Proofs.YtbgjmioccbacdaaGreatDoor.Vm
