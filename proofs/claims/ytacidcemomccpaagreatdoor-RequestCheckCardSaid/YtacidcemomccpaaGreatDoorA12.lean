import Derived.Test.YtacidcemomccpaaGreatDoorA10
import Derived.Test.YtacidcemomccpaaGreatDoorA11
set_option linter.all false
namespace Go.Proofs.YtacidcemomccpaaGreatDoor.Vm
noncomputable section
variable (N:Nat)
open Go.Proofs Go.Proofs.Tryz
def Ac6:A0n:=[A0l 3 [],A0l 11 [12,13,14],A0l 18 [12,13,14],A0l 38 [12,13,14,21,22,23]]
def Aed:Lk:=⟨[],[(18,⟨[(12,.i),(13,.i),(14,.c x64)],[]⟩,[(0,⟨[],[]⟩)]),(38,⟨[(12,.i),(13,.i),(14,.i),(21,.i),(22,.i),(23,.c x64)],[]⟩,[(2,⟨[(12,.i),(13,.i),(14,.i)],[]⟩)])]⟩
def X9:=JO 14 [Sq0] [JQ] (Ov N) [] Ac6 Aed f14 N
def AnM:A0n:=[A0l 3 [],A0l 18 [2,13,14,15]]
def AqB:Lk:=⟨[],[(18,⟨[(2,.i),(13,.i),(14,.i),(15,.c x64)],[]⟩,[(0,⟨[],[]⟩)])]⟩
def AqC:=JO 45 [Sq1,Jz,Jz] [JQ] (λa=>X8 N a.1 a.2.1 a.2.2) [] AnM AqB f45 N
def l9:A0n:=[A0l 3 [],A0l 18 [8,9,10]]
def o8:Lk:=⟨[],[(18,⟨[(8,.i),(9,.i),(10,.c x64)],[]⟩,[(0,⟨[],[]⟩)])]⟩
def o9:=JO 48 [.cell false (.sl 118 Tq3)] [JQ] (OL N) [] l9 o8 f48 N
def AfD:=JB 7 [Sq4] [Sq5] (Z8 N) [] f7 N
def Wx:=JO 38 [Sq6] [Jz] (KW N) [] [] A0o f38 N (bb:=[6,10,11,16,17,22])
def Ahv:A0n:=[A0l 3 [4],A0l 22 [4,12,13,14]]
def Aj2:Lk:=⟨[],[(22,⟨[(4,.c x64),(12,.c (xo 35840)),(13,.i),(14,.c x64)],[(35840,.arr 5 false Ar)]⟩,[(0,⟨[(4,.c x64)],[]⟩)])]⟩
def Aj3:=JO 105 [Jw] [Jz,JQ] (Tj N) [] Ahv Aj2 f105 N
def mF:=JB 204 [Jw,Jz] [Jz] (λa=>RV N a.1 a.2) [] f204 N
def Aj9:A0n:=[(3,⟨[4,5],[([4],3,Au,Azt)],[],[(Azs,Azt)],[]⟩),(26,⟨[4,5,14,15,16],[([4],3,Au,Azs)],[],[(40448,Azs)],[]⟩)]
def Ams:Lk:=⟨[],[(26,⟨[(4,.c (xo Azs)),(5,.c x64),(14,.c (xo 36352)),(15,.i),(16,.c x64)],[(36352,.arr 5 false Ar),(Azs,.arr 3 false Au)]⟩,[(0,⟨[(4,.c (xo Azt)),(5,.c x64)],[(Azt,.arr 3 false Au)]⟩)])]⟩
def AaT:=JO 205 [Jw] [Sq4,Jz] (QI N) [] Aj9 Ams f205 N
open Go.Proofs Go.Proofs.Tryz
def Zo:=JB 66 [] [.cell false (.sl 116 Tq4)] (λ_=>PZ N) [] f66 N
def AgJ:=JB 86 [Jz] [JQ] (Oa N) [] f86 N
def Aqq:=JB 269 [Jz] [Jz] (AdO N) [] f269 N
def xN:=JO 371 [.cell false (.int .u8)] [JQ] (SY N) [] [] A0o f371 N (bb:=[5,8,9,12,15,16])
def Aa0:=JB 372 [.cell false (.int .u8)] [JQ] (Sz N) [] f372 N
def Ajq:=JB 354 [Jw] [Jw,Jw] (ZW N) [] f354 N
def Aqx:=JB 355 [Jw,Jz] [JQ] (λa=>Z5 N a.1 a.2) [] f355 N
def Ahk:=JB 321 [Jw] [JQ] (VJ N) [] f321 N
open Go.Proofs Go.Proofs.Tryz
def Ao0:=JB 328 [Jz] [Jz] (AbI N) [] f328 N
def Ad3:=JB 139 [Sq2] [JQ] (Zg N) [] f139 N
def Ad4:=JB 142 [Sq2] [JQ] (Zh N) [] f142 N
def Ad5:=JB 145 [Sq2] [JQ] (Zi N) [] f145 N
def Ad6:=JB 148 [Sq2] [JQ] (Zj N) [] f148 N
def Ad7:=JB 151 [Sq2] [JQ] (Zk N) [] f151 N
def Ad8:=JB 154 [Sq2] [JQ] (TK N) [] f154 N
def Ad9:=JB 157 [Sq2] [JQ] (Zl N) [] f157 N
open Go.Proofs Go.Proofs.Tryz
def AdA:=JB 160 [Sq2] [JQ] (Zm N) [] f160 N
def AdB:=JB 163 [Sq2] [JQ] (Zn N) [] f163 N
def Acv:=JB 166 [Sq2] [JQ] (Yl N) [] f166 N
def Acw:=JB 169 [Sq2] [JQ] (Ym N) [] f169 N
def Acx:=JB 172 [Sq2] [JQ] (Yn N) [] f172 N
def Acy:=JB 175 [Sq2] [JQ] (Yo N) [] f175 N
def Uo:Sig:=.of [.box [(false,.bool)]] [JQ] (MC N)
def Ry:pI 31 (Uo N):=AbW (AbQ (ksp []) []) A0o f31 N (MB (Oe _))
def LJ:=JB 24 [.box [(false,.bool)],Jw,Jz] [Jw] (λa=>Kq N a.1 a.2.1 a.2.2) [] f24 N
open Go.Proofs Go.Proofs.Tryz
def Aoz:A0n:=[A0l 3 [0,1,6],A0l 22 [0,1,6,21,22,23],(77,⟨[1,9],[],[],[(45568,Azu),(47616,Azu),(49664,Azu),(52480,Azu)],[]⟩)]
def Ar7:Lk:=⟨[(77,⟨[(1,.i),(9,.c (xo Azu))],[(Azu,.arr 5 false Ar)]⟩)],[(22,⟨[(0,.i),(1,.i),(6,.c x64),(21,.i),(22,.i),(23,.c x64)],[]⟩,[(0,⟨[(0,.i),(1,.i),(6,.c x64)],[]⟩)])]⟩
def PW:=JO 67 [Jz,Sq1] [Jw,Jz] (λa=>Kz N a.1 a.2) [⟨178,ZG N,eY N⟩] Aoz Ar7 f67 N
def AaZ:A0n:=[A0l 3 [0,3],(11,⟨[5],[([5],5,Ar,Azv)],[],[(Azu,Azv)],[]⟩),A0l 14 [0,3,4],(34,⟨[0,3,5,18,19],[([5],5,Ar,Azu)],[],[(41216,Azu)],[]⟩)]
def Ac8:Lk:=⟨[],[(14,⟨[(0,.i),(3,.c x64),(4,.c x64)],[]⟩,[(0,⟨[(0,.i),(3,.c x64)],[]⟩)]),(34,⟨[(0,.i),(3,.i),(5,.c (xo Azu)),(18,.i),(19,.c x64)],[(Azu,.arr 5 false Ar)]⟩,[(2,⟨[(5,.c (xo Azv))],[(Azv,.arr 5 false Ar)]⟩)])]⟩
def eP:=JO 70 [Jz] [Jw] (NS N) [] AaZ Ac8 f70 N
def eH:=JB 183 [JQ] [Jw] (V3 N) [] f183 N
def Aeq:A0n:=[A0l 3 [0,4],A0l 11 [5],A0l 18 [0,4],A0l 38 [0,5,34,35]]
def Agc:Lk:=⟨[],[(18,⟨[(0,.i),(4,.c x64)],[]⟩,[(0,⟨[(0,.i),(4,.c x64)],[]⟩)]),(38,⟨[(0,.i),(5,.c (xo 38912)),(34,.i),(35,.c x64)],[(38912,.arr 5 false Ar)]⟩,[(2,⟨[(5,.c (xo 38912))],[(38912,.arr 5 false Ar)]⟩)])]⟩
def mJ:=JO 232 [Jz] [Jw,Jz] (RX N) [] Aeq Agc f232 N
def AqQ:A0n:=[A0l 3 [0,1,5],A0l 10 [0,1,5],(11,⟨[0,1],[],[],[(0,Azv),(Azu,Azv)],[]⟩),(22,⟨[0,1,6],[],[],[(0,Azu),(40704,Azu)],[]⟩)]
def Atj:Lk:=⟨[],[(10,⟨[(0,.c (xo 0)),(1,.i),(5,.c x64)],[(0,.arr 5 true Ar)]⟩,[(0,⟨[(0,.c (xo 0)),(1,.i),(5,.c x64)],[(0,.arr 5 true Ar)]⟩)]),(22,⟨[(0,.c (xo Azu)),(1,.i),(6,.c x64)],[(Azu,.arr 5 true Ar)]⟩,[(2,⟨[(0,.c (xo Azv)),(1,.i)],[(Azv,.arr 5 true Ar)]⟩)])]⟩
def Atk:=JO 253 [Ax7,Jz] [Ax7] (λa=>rD N a.1 a.2) [] AqQ Atj f253 N
def Ajm:=JB 300 [Jz] [Jz] (nX N) [] f300 N
def Aba:=JB 185 [Jw,Jz] [JQ] (λa=>YF N a.1 a.2) [] f185 N
def Ac3:=JB 74 [Sq6] [Jw] (Y2 N) [] f74 N
open Go.Proofs Go.Proofs.Tryz
def UI:=JB 64 [Adw] [JQ] (N8 N) [] f64 N
def yQ:=JB 138 [AyZ] [Jw] (eG N) [] f138 N
def LD:=JB 22 [Sq5,Jz] [Jz] (λa=>JE N a.1 a.2) [] f22 N
def AmQ:=JB 120 [] [Sq2] (λ_=>wL N) [] f120 N
def xO:=JB 216 [Jz] [Jw] (Ve N) [] f216 N
def kG (N n:Nat):Sig:=.of [.cell false (.int .i64)] [.cell false .str] (λa=>mM N n a)
def mO (N:Nat): ∀ n,Spec Tryz.prog 288 (kG N n)
 | 0=>AbA (C:=ctx Tryz.prog [] []) (fn:=f288) (MB (gs:=[]) trivial)
 | n+1=>Vk (C:=ctx Tryz.prog ((288,kG N n)::(ksp [])) []) (L:=⟨[],[]⟩) (fn:=f288) (N:=N) (MB ⟨mO N n,(Oe _)⟩)
def Adp:Sig:=kG N N
def AhE (N:Nat):Spec Tryz.prog 288 (Adp N):=mO N N
def AgG:=JB 58 [] [Sq2] (λ_=>iU N) [] f58 N
def jG:=JB 133 [Xy] [Sq6,Jz] (Zv N) [] f133 N
open Go.Proofs Go.Proofs.Tryz
def Ajp:A0n:=[A0l 3 [],A0l 26 [3,4,5,6]]
def AlH:Lk:=⟨[],[(26,⟨[(3,.i),(4,.i),(5,.c xb),(6,.c x64)],[]⟩,[(0,⟨[],[]⟩)])]⟩
def AlI:=JO 320 [Jw] [JQ] (Yz N) [Ajq N,Aqx N] Ajp AlH f320 N (bb:=[32,34,35,38,42,43])
def Aoy:A0n:=[A0l 3 [0,2,5,6,7,8,9],A0l 74 [0,2,5,6,7,8,9,50,51,52],A0l 101 [0,2,5,6,7,8]]
def Ar6:Lk:=⟨[(101,⟨[(0,.i),(2,.c AP),(5,.c AX),(6,.i),(7,.c x64),(8,.c x64)],[(Azw,.box Bv),(Az2,.box Bv)]⟩)],[(74,⟨[(0,.i),(2,.c AP),(5,.c AX),(6,.i),(7,.c x64),(8,.i),(9,.i),(50,.c (xo 45568)),(51,.i),(52,.c x64)],[(Azw,.box Bv),(Az2,.box Bv),(45568,.arr 5 false Ar)]⟩,[(0,⟨[(0,.i),(2,.c AP),(5,.c AX),(6,.i),(7,.c x64),(8,.i),(9,.i)],[(Azw,.box Bv),(Az2,.box Bv)]⟩)])]⟩
def xG:=JO 289 [Jw] [Sq6,Jw,Jz] (ZK N) [Ao0 N] Aoy Ar6 f289 N
def AeU:A0n:=[A0l 3 [2],A0l 10 [0,2,6,7,8]]
def AgH:Lk:=⟨[],[(10,⟨[(0,.i),(2,.c AP),(6,.i),(7,.i),(8,.c x64)],[(Azw,.box BA)]⟩,[(0,⟨[(2,.c AP)],[(Azw,.box BA)]⟩)])]⟩
def AgI:=JO 197 [Jw] [AyY,JQ] (Yj N) [Zo N] AeU AgH f197 N
def Aak (N n:Nat):Sig:=.of [Sq2] [.cell false .bool] (AbR N n)
def Aff (N:Nat):fA Tryz.prog (Aak N):=AbT (Jt:=[Sq2]) (J7:=[.cell false .bool]) (l:=[(139,λa=>Zg N a),(142,λa=>Zh N a),(145,λa=>Zi N a),(148,λa=>Zj N a),(151,λa=>Zk N a),(154,λa=>TK N a),(157,λa=>Zl N a),(160,λa=>Zm N a),(163,λa=>Zn N a),(166,λa=>Yl N a),(169,λa=>Ym N a),(172,λa=>Yn N a),(175,λa=>Yo N a)]) ⟨(Ad3 N).h,(Ad4 N).h,(Ad5 N).h,(Ad6 N).h,(Ad7 N).h,(Ad8 N).h,(Ad9 N).h,(AdA N).h,(AdB N).h,(Acv N).h,(Acw N).h,(Acx N).h,(Acy N).h,trivial⟩
def Ls:=JB 25 [.box [(false,.bool)],Jz,Sq1] [Jw] (λa=>JA N a.1 a.2.1 a.2.2) [PW N,LJ N] f25 N
def rJ:=JB 73 [Jw,Jz] [Jw,Jz] (λa=>VQ N a.1 a.2) [Aba N] f73 N
def mG:=JB 285 [Jw,Jw,Jz] [Jz] (λa=>UT N a.1 a.2.1 a.2.2) [mF N] f285 N
def Aef:=JB 119 [Sq5] [Auc] (Wv N) [LD N] f119 N
open Go.Proofs Go.Proofs.Tryz
def AlF:=JB 325 [] [Sq7] (λ_=>uS N) [] f325 N
def qP:=JB 356 [] [Sq8] (λ_=>VI N) [] f356 N
def AnC:=JB 374 [.cell false (.int .u32),.cell false (.int .u64)] [.cell false (.int .u32)] (λa=>L9 N a.1 a.2) [] f374 N
def Ajn:=JB 375 [] [Sq9] (λ_=>nY N) [] f375 N
def Aen:=JB 281 [Jz] [Jw] (rF N) [] f281 N
def Amv:=JB 282 [Jz] [Jw] (rE N) [] f282 N
def Aoa:A0n:=[A0l 3 [3],A0l 14 [3,10,11,12]]
def Ara:Lk:=⟨[],[(14,⟨[(3,.c (xo 35072)),(10,.i),(11,.i),(12,.c x64)],[(35072,.arr 5 false Ar)]⟩,[(0,⟨[(3,.c (xo 35072))],[(35072,.arr 5 false Ar)]⟩)])]⟩
def AfU:=JO 283 [Sq1] [Jw] (kD N) [] Aoa Ara f283 N (cc:=[20])
def oC:=JB 209 [Jz] [Jw] (bP N) [] f209 N
open Go.Proofs Go.Proofs.Tryz
def AnU:=JB 210 [Jz] [Jw] (AaM N) [] f210 N
def Vr:=JB 136 [Ag4] [JQ] (NL N) [] f136 N
def AhI:A0n:=[A0l 3 [0,5,6],A0l 11 [0,5,6],A0l 18 [0,1,5,6,7],A0l 19 [0,13,14,15,16,17,18,19,20],A0l 34 [0,5,6,8],A0l 66 [0,5,6,13,14,15,16,17,18,19,20,21]]
def AjO:Lk:=⟨[],[(18,⟨[(0,.i),(1,.i),(5,.c (xo AzC)),(6,.c (.c (.Ku Az4 0 0))),(7,.c x64)],[(Az4,.arr 211 false Aw),(AzC,.arr 152 false Aw)]⟩,[(0,⟨[(0,.i),(5,.c (xo AzC)),(6,.c (.c (.Ku Az4 0 0)))],[(Az4,.arr 211 false Aw),(AzC,.arr 152 false Aw)]⟩)]),(34,⟨[(0,.i),(5,.c (xo AzC)),(6,.c (.c (.Ku Az4 0 0))),(8,.c x64)],[(Az4,.arr 211 false Aw),(AzC,.arr 152 false Aw)]⟩,[(2,⟨[(0,.i),(5,.c (xo AzC)),(6,.c (.c (.Ku Az4 0 0)))],[(Az4,.arr 211 false Aw),(AzC,.arr 152 false Aw)]⟩)]),(66,⟨[(0,.i),(5,.c (xo AzC)),(6,.c (.c (.Ku Az4 0 0))),(13,.c Ba),(14,.c Ba),(15,.c Ba),(16,.c Ba),(17,.c Ba),(18,.c Ba),(19,.c Ba),(20,.c Ba),(21,.c x64)],[(Az4,.arr 211 false Aw),(AzC,.arr 152 false Aw)]⟩,[(4,⟨[(0,.i),(13,.c Ba),(14,.c Ba),(15,.c Ba),(16,.c Ba),(17,.c Ba),(18,.c Ba),(19,.c Ba),(20,.c Ba)],[]⟩)])]⟩
def AjP:=JO 115 [Ax6,Jw] [Ax6] (λa=>QO N a.1 a.2) [] AhI AjO f115 N
def gG:=JB 51 [Jz] [Jw] (PN N) [] f51 N
def AqO:A0n:=[A0l 3 [3],A0l 22 [0,3,4]]
def Ath:Lk:=⟨[],[(22,⟨[(0,.i),(3,.c x64),(4,.c x64)],[]⟩,[(0,⟨[(3,.c x64)],[]⟩)])]⟩
def Ati:=JO 309 [Jw] [Jz] (iH N) [] AqO Ath f309 N (bb:=[7,11,12,16,20,21])
def AqR:=JB 310 [Jz,Jz] [JQ] (λa=>vP N a.1 a.2) [] f310 N
def Akn:=JO 266 [.cell false (.int .u8)] [JQ] (Adt N) [] [] A0o f266 N (bb:=[5,8,9,12,15,16,17,20,23,24])
def AhX:=JB 268 [.cell false (.int .u8)] [JQ] (Ue N) [] f268 N
open Go.Proofs Go.Proofs.Tryz
def AaB:A0n:=[A0l 3 [],A0l 18 [8,9,10]]
def Ac7:Lk:=⟨[],[(18,⟨[(8,.i),(9,.i),(10,.c x64)],[]⟩,[(0,⟨[],[]⟩)])]⟩
def dZ:=JO 46 [.cell false (.sl 146 Tq1)] [JQ] (MK N) [X9 N] AaB Ac7 f46 N
def yL:A0n:=[A0l 3 [2,4,5],A0l 11 [2,4,5],A0l 14 [1,2,4,5,6],A0l 19 [2,4,11],A0l 27 [4,11],A0l 30 [2,4,5,7],A0l 62 [2,4,5,10,11,12],A0l 98 [2,4,11,204]]
def Aay:Lk:=⟨[],[(14,⟨[(1,.i),(2,.c (.c (.Ku Azw 0 0))),(4,.c (.c (.Ku Az0 0 0))),(5,.c (.c (.Ku Az2 0 0))),(6,.c x64)],[(Azw,.arr 327 false Aw),(Az0,.arr 327 false Aw),(Az2,.arr 211 false Aw)]⟩,[(0,⟨[(2,.c (.c (.Ku Azw 0 0))),(4,.c (.c (.Ku Az0 0 0))),(5,.c (.c (.Ku Az2 0 0)))],[(Azw,.arr 327 false Aw),(Az0,.arr 327 false Aw),(Az2,.arr 211 false Aw)]⟩)]),(30,⟨[(2,.c (.c (.Ku Azw 0 0))),(4,.c (.c (.Ku Az0 0 0))),(5,.c (.c (.Ku Az2 0 0))),(7,.c x64)],[(Azw,.arr 327 false Aw),(Az0,.arr 327 false Aw),(Az2,.arr 211 false Aw)]⟩,[(2,⟨[(2,.c (.c (.Ku Azw 0 0))),(4,.c (.c (.Ku Az0 0 0))),(5,.c (.c (.Ku Az2 0 0)))],[(Azw,.arr 327 false Aw),(Az0,.arr 327 false Aw),(Az2,.arr 211 false Aw)]⟩)]),(62,⟨[(2,.c (.c (.Ku Azw 0 0))),(4,.c (.c (.Ku Az0 0 0))),(5,.c (.c (.Ku Az2 0 0))),(10,.c (.c (.Ku 35328 0 0))),(11,.c (.c (.Ku AzG 0 0))),(12,.c x64)],[(Azw,.arr 327 false Aw),(Az0,.arr 327 false Aw),(Az2,.arr 211 false Aw),(35328,.arr 211 false Aw),(AzG,.arr 327 false Aw)]⟩,[(4,⟨[(2,.c (.c (.Ku Azw 0 0))),(4,.c (.c (.Ku Az0 0 0))),(11,.c (.c (.Ku AzG 0 0)))],[(Azw,.arr 327 false Aw),(Az0,.arr 327 false Aw),(AzG,.arr 327 false Aw)]⟩)]),(98,⟨[(2,.c (.c (.Ku Azw 0 0))),(4,.c (.c (.Ku Az0 0 0))),(11,.c (.c (.Ku AzG 0 0))),(204,.c x64)],[(Azw,.arr 327 false Aw),(Az0,.arr 327 false Aw),(AzG,.arr 327 false Aw)]⟩,[(6,⟨[(4,.c (.c (.Ku Az0 0 0))),(11,.c (.c (.Ku AzG 0 0)))],[(Az0,.arr 327 false Aw),(AzG,.arr 327 false Aw)]⟩)])]⟩
def bF:=JO 357 [Sq8,AyV] [Sq8] (λa=>LY N a.1 a.2) [AnC N,Ajn N] yL Aay f357 N
def Uz:=JB 114 [Ag4] [Jz] (MO N) [Vr N] f114 N
def AmD:A0n:=[A0l 3 [3],A0l 11 [3,6,9],A0l 14 [3,15,16,17],(19,⟨[6],[],[(none,6,Aw)],[],[]⟩),(27,⟨[12],[],[],[(51456,1032768),(Az3,1032768)],[]⟩),A0l 49 [3,6,7,8],A0l 62 [3,6,7,9,10],(82,⟨[3,6,11],[],[(none,6,Aw)],[],[]⟩),(102,⟨[12,74,75,76],[],[],[(51456,Az3),(56576,Az3)],[]⟩)]
def Aoj:Lk:=⟨[(49,⟨[(3,.i),(6,.c (xo 39168)),(7,.i),(8,.c x64)],[(39168,.arr 152 false Aw)]⟩)],[(14,⟨[(3,.c xs),(15,.i),(16,.i),(17,.c x64)],[]⟩,[(0,⟨[(3,.c xs)],[]⟩)]),(62,⟨[(3,.i),(6,.c (xo 39168)),(7,.i),(9,.c (xo 41984)),(10,.c x64)],[(39168,.arr 152 false Aw),(41984,.arr 5 false Ar)]⟩,[(2,⟨[(3,.i),(6,.c (xo 39168)),(9,.c (xo 41984))],[(39168,.arr 152 false Aw),(41984,.arr 5 false Ar)]⟩)]),(82,⟨[(3,.i),(6,.c (xl Aw)),(11,.c x64)],[]⟩,[(4,⟨[(6,.c (xl Aw))],[]⟩)]),(102,⟨[(12,.c (xo Az3)),(74,.i),(75,.i),(76,.c x64)],[(Az3,.arr 5 false Ar)]⟩,[(6,⟨[(12,.c (xo 1032768))],[(1032768,.arr 5 false Ar)]⟩)])]⟩
def Adq:=JO 50 [Sq1] [Jw] (Uk N) [AjP N] AmD Aoj f50 N
def AnV:A0n:=[(3,⟨[4],[([4],3,Au,Azt)],[],[(Azs,Azt)],[]⟩),(26,⟨[4,18,19,20],[([4],3,Au,Azs)],[],[(40704,Azs)],[]⟩)]
def AqP:Lk:=⟨[],[(26,⟨[(4,.c (xo Azs)),(18,.i),(19,.i),(20,.c x64)],[(Azs,.arr 3 false Au)]⟩,[(0,⟨[(4,.c (xo Azt))],[(Azt,.arr 3 false Au)]⟩)])]⟩
def AfR:=JO 251 [Jw] [AyW] (ZA N) [⟨308,V8 N,dA N⟩,Ati N,AqR N] AnV AqP f251 N
def AhW:=JB 265 [.cell false (.int .u8)] [JQ] (Ud N) [Akn N,⟨267,Vt N,Xk N⟩] f265 N
def Ajs:A0n:=[A0l 3 [],A0l 18 [27,28,29]]
def AlJ:Lk:=⟨[],[(18,⟨[(27,.c (xo 39680)),(28,.i),(29,.c x64)],[(39680,.arr 5 false Ar)]⟩,[(0,⟨[],[]⟩)])]⟩
def AlK:=JO 368 [Jw] [JQ] (fP N) [xN N,Aa0 N] Ajs AlJ f368 N (bb:=[8,12,13,17,18,25])
def Aju:A0n:=[A0l 3 [],A0l 18 [32,33,34]]
def AlL:Lk:=⟨[],[(18,⟨[(32,.c (xo AzD)),(33,.i),(34,.c x64)],[(AzD,.arr 5 false Ar)]⟩,[(0,⟨[],[]⟩)])]⟩
def AlM:=JO 351 [Jw] [JQ] (Y0 N) [⟨353,VX N,Yb N⟩,xN N,Aa0 N,⟨267,Vt N,Xk N⟩] Aju AlL f351 N (bb:=[9,13,14,18,19,26,27,30])
open Go.Proofs Go.Proofs.Tryz
def yM:A0n:=[A0l 3 [],A0l 18 [8,9,10]]
def AaC:Lk:=⟨[],[(18,⟨[(8,.i),(9,.i),(10,.c x64)],[]⟩,[(0,⟨[],[]⟩)])]⟩
def AaD:=JO 47 [.cell false (.sl 148 Tq2)] [JQ] (PK N) [dZ N,X9 N] yM AaC f47 N
def uT:A0n:=[(3,⟨[0,4],[],[(none,4,Ar)],[],[]⟩),A0l 13 [0,1],(22,⟨[0,4],[],[(none,4,Ar)],[],[41728]⟩)]
def yJ:Lk:=⟨[(13,⟨[(0,.c AO),(1,.i)],[(0,.box Bj)]⟩)],[(22,⟨[(0,.c AO),(4,.c Bh)],[(0,.box Bj)]⟩,[(0,⟨[(0,.c AO),(4,.c Bh)],[(0,.box Bj)]⟩)])]⟩
def yK:=JO 326 [Sq7,Jw] [] (λa=>NJ N a.1 a.2) [qP N,bF N] uT yJ f326 N
def Aax:A0n:=[(3,⟨[3,4,5],[],[],[(41984,Azu),(Azt,Azu)],[Azu]⟩),A0l 11 [3,4],A0l 19 [3],A0l 27 [7],(29,⟨[3,4,5],[([4],5,Ar,Azs)],[],[(41216,Azs)],[]⟩),(34,⟨[3,4,5],[],[],[(41984,Azt),(43776,Azt)],[]⟩),(46,⟨[3,4,5,6],[],[],[(47616,Azu)],[]⟩),(58,⟨[3,4],[],[(none,4,Ar)],[],[]⟩),(78,⟨[7,68,69],[([7],5,Ar,Az3)],[],[(54528,Az3)],[]⟩)]
def Ac0:Lk:=⟨[(29,⟨[(3,.c (.c (.Ku Azy 0 0))),(4,.c (xo Azs)),(5,.c x64)],[(0,.box Bj),(Azy,.arr 327 false Aw),(Azs,.arr 5 false Ar)]⟩)],[(34,⟨[(3,.c (.c (.Ku Azy 0 0))),(4,.c (xo Azt)),(5,.i)],[(0,.box Bj),(Azy,.arr 327 false Aw),(Azt,.arr 5 false Ar)]⟩,[(0,⟨[(3,.c (.c (.Ku Azy 0 0))),(4,.c (xo Azu)),(5,.i)],[(0,.box Bj),(Azy,.arr 327 false Aw),(Azu,.arr 5 true Ar)]⟩)]),(46,⟨[(3,.c (.c (.Ku Azy 0 0))),(4,.c (xo Azu)),(5,.i),(6,.c x64)],[(0,.box Bj),(Azy,.arr 327 false Aw),(Azu,.arr 5 true Ar)]⟩,[(2,⟨[(3,.c (.c (.Ku Azy 0 0))),(4,.c (xo Azu))],[(0,.box Bj),(Azy,.arr 327 false Aw),(Azu,.arr 5 true Ar)]⟩)]),(58,⟨[(3,.c (.c (.Ku Azy 0 0))),(4,.c Bh)],[(0,.box Bj),(Azy,.arr 327 false Aw)]⟩,[(4,⟨[(3,.c (.c (.Ku Azy 0 0)))],[(0,.box Bj),(Azy,.arr 327 false Aw)]⟩)]),(78,⟨[(7,.c (xo Az3)),(68,.i),(69,.c x64)],[(0,.box Bj),(Az3,.arr 5 false Ar)]⟩,[(6,⟨[(7,.c (xo Az3))],[(0,.box Bj),(Az3,.arr 5 false Ar)]⟩)])]⟩
def Ac1:=JO 327 [Sq7] [Jw] (OH N) [qP N,bF N] Aax Ac0 f327 N
def Adg:=JB 17 [Jz] [Jw] (SA N) [gG N,Adq N] f17 N
def Xe:Sig:=.of [Jw] [JQ] (Pj N)
def TV:pI 180 (Xe N):=AbW (AbQ (ksp [AfR N]) []) A0o f180 N (MB (Oe _))
def Ait (N n:Nat):Sig:=.of [.cell false (.int .u8)] [.cell false .bool] (AbS N n)
def ApX (N:Nat):fA Tryz.prog (Ait N):=AbT (Jt:=[.cell false (.int .u8)]) (J7:=[.cell false .bool]) (l:=[(265,λa=>Ud N a),(268,λa=>Ue N a)]) ⟨(AhW N).h,(AhX N).h,trivial⟩
def AnE:A0n:=[A0l 3 [],A0l 18 [9,10,11]]
def Aqw:Lk:=⟨[],[(18,⟨[(9,.i),(10,.i),(11,.c x64)],[]⟩,[(0,⟨[],[]⟩)])]⟩
def fO:=JO 348 [Jw] [JQ] (Q4 N) [⟨308,V8 N,dA N⟩,AlK N] AnE Aqw f348 N
def mX:=JB 219 [Jw] [Sq6,Jz] (ZJ N) [xG N] f219 N
open Go.Proofs Go.Proofs.Tryz
def Akq:A0n:=[A0l 3 [],A0l 18 [1,5]]
def Ang:Lk:=⟨[],[(18,⟨[(1,.i),(5,.c xs)],[]⟩,[(0,⟨[],[]⟩)])]⟩
def dX (N n:Nat):Sig:=.of [Sq6,.cell false (.int .i64)] [.cell false (.int .i64)] (λa=>SN N n a.1 a.2)
def kR (N:Nat): ∀ n,Spec Tryz.prog 252 (dX N n)
 | 0=>AbA (C:=ctx Tryz.prog [] []) (fn:=f252) (MB (gs:=[]) trivial)
 | n+1=>Vk (C:=ctx Tryz.prog ((252,dX N n)::(ksp [xG N])) Akq) (L:=Ang) (fn:=f252) (N:=N) (MB ⟨kR N n,(Oe _)⟩)
def AbJ:Sig:=dX N N
def Agy (N:Nat):Spec Tryz.prog 252 (AbJ N):=kR N N
def LX:=JB 27 [.box [(false,.bool)],Sq1] [Jw] (λa=>JR N a.1 a.2) [Ls N] f27 N
def X4:=JB 28 [.box [(false,.bool)],Jz] [Jw] (λa=>ND N a.1 a.2) [eP N,Ls N] f28 N
def Acz:=JB 229 [.box [(false,.bool)],Jz,JQ] [Jw] (λa=>Su N a.1 a.2.1 a.2.2) [eH N,Ls N] f229 N
def zZ:=JB 143 [.box [(false,.bool)],Sq2] [Jw] (λa=>PE N a.1 a.2) [mJ N,LJ N,Ls N] f143 N
def Aj6:A0n:=[(3,⟨[5],[],[],[(37888,Azt),(Azs,Azt)],[]⟩),(26,⟨[5,22,23,24],[],[],[(37888,Azs),(40448,Azs)],[]⟩)]
def Amn:Lk:=⟨[],[(26,⟨[(5,.c (xo Azs)),(22,.i),(23,.i),(24,.c x64)],[(Azs,.arr 5 true Ar)]⟩,[(0,⟨[(5,.c (xo Azt))],[(Azt,.arr 5 true Ar)]⟩)])]⟩
def YC:=JO 182 [Jw] [Jw,Jz] (SC N) [AfR N,Atk N] Aj6 Amn f182 N
def uA:=JB 167 [.box [(false,.bool)],Sq2] [Jw] (λa=>Oq N a.1 a.2) [Ls N] f167 N
def wV:=JB 116 [Adw] [Jz] (VU N) [UI N,Uz N] f116 N
open Go.Proofs Go.Proofs.Tryz
def Ac5:A0n:=[A0l 3 [1],A0l 18 [1,54,55,56]]
def Aeb:Lk:=⟨[],[(18,⟨[(1,.c AB),(54,.i),(55,.i),(56,.c x64)],[(Azx,.box Bi)]⟩,[(0,⟨[(1,.c AB)],[(Azx,.box Bi)]⟩)])]⟩
def Aec:=JO 15 [Sq2] [JQ] (TU N) [AqC N,dZ N,AaD N,o9 N] Ac5 Aeb f15 N (bb:=[9,14,15,20,21,26,27,33,34,40,41,46,47,52])
def AnB:A0n:=[A0l 3 [3],A0l 14 [3,7,8,9]]
def Aqs:Lk:=⟨[],[(14,⟨[(3,.c (.c (.ptr Az4 0))),(7,.i),(8,.i),(9,.c x64)],[(Az4,.box Bj)]⟩,[(0,⟨[(3,.c (.c (.ptr Az4 0)))],[(Az4,.box Bj)]⟩)])]⟩
def Aqt:=JO 284 [Sq1] [Jw] (X7 N) [AlF N,yK N,Ac1 N] AnB Aqs f284 N
def Aow:A0n:=[A0l 3 [],A0l 10 [0,1,5]]
def Ar2:Lk:=⟨[],[(10,⟨[(0,.i),(1,.i),(5,.c x64)],[]⟩,[(0,⟨[],[]⟩)])]⟩
def Ar3:=JO 264 [Jw,.cell false .fn] [JQ] (λa=>XE N a.1 a.2) [] Aow Ar2 f264 N (dd:=[(12,Ait N)]) (hD:=⟨ApX N,trivial⟩)
def yC:A0n:=[A0l 3 [],A0l 11 [0,13,14,15],A0l 18 [0,13,14,15],A0l 38 [0,6,13,14,15,25,26,27]]
def zU:Lk:=⟨[],[(18,⟨[(0,.i),(13,.i),(14,.i),(15,.c x64)],[]⟩,[(0,⟨[],[]⟩)]),(38,⟨[(0,.i),(6,.i),(13,.i),(14,.i),(15,.i),(25,.i),(26,.i),(27,.c x64)],[]⟩,[(2,⟨[(0,.i),(13,.i),(14,.i),(15,.i)],[]⟩)])]⟩
def zV:=JO 87 [Sq1,Jz] [Jz] (λa=>QY N a.1 a.2) [⟨180,Xe N,TV N⟩] yC zU f87 N
def iV:A0n:=[A0l 3 [],A0l 11 [0,10,11,12],A0l 18 [0,10,11,12],A0l 38 [0,4,10,11,12,29,30,31]]
def kT:Lk:=⟨[],[(18,⟨[(0,.i),(10,.i),(11,.i),(12,.c x64)],[]⟩,[(0,⟨[],[]⟩)]),(38,⟨[(0,.i),(4,.c AU),(10,.i),(11,.i),(12,.i),(29,.i),(30,.i),(31,.c x64)],[(Az0,.box [xs,xs])]⟩,[(2,⟨[(0,.i),(10,.i),(11,.i),(12,.i)],[]⟩)])]⟩
def kU:=JO 88 [Aub] [Jz] (Ql N) [⟨180,Xe N,TV N⟩] iV kT f88 N
def Adb:=JO 317 [Jw] [JQ] (VK N) [⟨350,y8 N,Ae3 N⟩,AlM N,fO N] [] A0o f317 N (bb:=[13,17,18,21,22,25])
def AnD:=JB 318 [Jw] [JQ] (bG N) [fO N] f318 N
def Ahl:=JB 319 [Jw] [JQ] (VL N) [⟨352,Zc N,oQ N⟩,fO N,⟨353,VX N,Yb N⟩] f319 N
open Go.Proofs Go.Proofs.Tryz
def Adu:Sig:=.of [Jw] [Jz] (SL N)
def sJ:pI 181 (Adu N):=AbW (AbQ (ksp [mX N,⟨252,AbJ N,Agy N⟩]) []) A0o f181 N (MB (Oe _))
def yD:A0n:=[A0l 17 [0,3,5]]
def zW:Lk:=⟨[(17,⟨[(0,.c AO),(3,.c AQ),(5,.c xs)],[(0,.box [xb]),(Azy,.box Bi)]⟩)],[]⟩
def zX:=JO 140 [.box [(false,.bool)],Sq2] [Jw] (λa=>P9 N a.1 a.2) [X4 N,Acz N,LX N] yD zW f140 N
def Yk:=JB 234 [.box [(false,.bool)],Jw] [Jw] (λa=>Qy N a.1 a.2) [YC N,LJ N,Ls N] f234 N
def tZ:A0n:=[A0l 3 [0,5],A0l 14 [0,5,13,14,15]]
def yE:Lk:=⟨[],[(14,⟨[(0,.c AO),(5,.c (xo AzE)),(13,.c (xo 36096)),(14,.i),(15,.c x64)],[(0,.box [xb]),(AzE,.arr 9 false Aq),(36096,.arr 3 false Au)]⟩,[(0,⟨[(0,.c AO),(5,.c (xo AzE))],[(0,.box [xb]),(AzE,.arr 9 false Aq)]⟩)])]⟩
def yF:=JO 155 [.box [(false,.bool)],Sq2] [Jw] (λa=>OV N a.1 a.2) [eP N,Ls N,LX N] tZ yE f155 N
def tY:=JB 158 [.box [(false,.bool)],Sq2] [Jw] (λa=>Oo N a.1 a.2) [X4 N] f158 N
def kZ:=JB 71 [Auc] [Jw,Jz] (Qn N) [YC N,PW N] f71 N
def nK:=JB 170 [.box [(false,.bool)],Sq2] [Jw] (λa=>NC N a.1 a.2) [Ls N,LX N] f170 N
def AdL:A0n:=[A0l 49 [1,6]]
def Afl:Lk:=⟨[(49,⟨[(1,.c AB),(6,.c (xo 36864))],[(Azx,.box [xs,xb,xs]),(36864,.arr 9 false Aq)]⟩)],[]⟩
def Afm:=JO 69 [Ax8] [Jw,Jz] (UO N) [YC N,PW N,eH N] AdL Afl f69 N
open Go.Proofs Go.Proofs.Tryz
def Ajy:=JO 4 [Sq3] [JQ] (ZX N) [X9 N,Aec N] [] A0o f4 N (bb:=[6,10,11,17,18,24,25,30,31,36,37,42])
def TP:=JB 208 [Sq1] [Jw] (LQ N) [Aqt N] f208 N
def Anf:=JB 193 [Jz,Jw] [JQ] (λa=>UJ N a.1 a.2) [⟨263,Agv N,Ako N⟩,Ar3 N] f193 N
def Afw:=JB 316 [Jw] [JQ] (UQ N) [Adb N,⟨349,YV N,lG N⟩,fO N] f316 N
def kV:A0n:=[A0l 3 [],A0l 10 [0,10,11,12],A0l 11 [0,4,10,11,12],A0l 42 [0,4,10,11,12,30,31,32]]
def nI:Lk:=⟨[],[(10,⟨[(0,.i),(10,.i),(11,.i),(12,.c x64)],[]⟩,[(0,⟨[],[]⟩)]),(42,⟨[(0,.i),(4,.c AU),(10,.i),(11,.i),(12,.i),(30,.i),(31,.i),(32,.c x64)],[(Az0,.box [xs,xb,xs])]⟩,[(2,⟨[(0,.i),(4,.c AU),(10,.i),(11,.i),(12,.i)],[(Az0,.box [xs,xb,xs])]⟩)])]⟩
def nJ:=JO 92 [.cell false (.sl 118 Tq3)] [Jz] (OE N) [⟨180,Xe N,TV N⟩,AgI N,⟨181,Adu N,sJ N⟩] kV nI f92 N
def nO:A0n:=[(3,⟨[0,5],[([5],9,Aq,Azt)],[],[(Azs,Azt)],[]⟩),(14,⟨[0,5,9,10,11],[([5],9,Aq,Azs)],[],[(37888,Azs)],[]⟩)]
def qC:Lk:=⟨[],[(14,⟨[(0,.c AO),(5,.c (xo Azs)),(9,.i),(10,.i),(11,.c x64)],[(0,.box [xb]),(Azs,.arr 9 false Aq)]⟩,[(0,⟨[(0,.c AO),(5,.c (xo Azt))],[(0,.box [xb]),(Azt,.arr 9 false Aq)]⟩)])]⟩
def qE:=JO 146 [.box [(false,.bool)],Sq2] [Jw] (λa=>NW N a.1 a.2) [Yk N,LX N] nO qC f146 N
def nN:A0n:=[(3,⟨[0,5],[([5],9,Aq,Azt)],[],[(Azs,Azt)],[]⟩),(14,⟨[0,5,9,10,11],[([5],9,Aq,Azs)],[],[(38656,Azs)],[]⟩)]
def qA:Lk:=⟨[],[(14,⟨[(0,.c AO),(5,.c (xo Azs)),(9,.i),(10,.i),(11,.c x64)],[(0,.box [xb]),(Azs,.arr 9 false Aq)]⟩,[(0,⟨[(0,.c AO),(5,.c (xo Azt))],[(0,.box [xb]),(Azt,.arr 9 false Aq)]⟩)])]⟩
def qB:=JO 149 [.box [(false,.bool)],Sq2] [Jw] (λa=>NV N a.1 a.2) [Yk N,LX N] nN qA f149 N
def nM:A0n:=[(3,⟨[0,5],[([5],9,Aq,Azt)],[],[(Azs,Azt)],[]⟩),(14,⟨[0,5,9,10,11],[([5],9,Aq,Azs)],[],[(39936,Azs)],[]⟩)]
def pX:Lk:=⟨[],[(14,⟨[(0,.c AO),(5,.c (xo Azs)),(9,.i),(10,.i),(11,.c x64)],[(0,.box [xb]),(Azs,.arr 9 false Aq)]⟩,[(0,⟨[(0,.c AO),(5,.c (xo Azt))],[(0,.box [xb]),(Azt,.arr 9 false Aq)]⟩)])]⟩
def pY:=JO 152 [.box [(false,.bool)],Sq2] [Jw] (λa=>NU N a.1 a.2) [Yk N,LX N] nM pX f152 N
open Go.Proofs Go.Proofs.Tryz
def YW (N:Nat):Yd Tryz.prog 63 false (.of [mY,Xy] [.cell false (.int .i64)] (λa=>QB N a.1 a.2)):=Qh (C:=ctx Tryz.prog (ksp []) []) (L:=⟨[],[]⟩) (fn:=f63) (N:=N) (MB (Oe _)) (by kernel_rfl) (by kernel_rfl) (λa=>by kernel_rfl)
def Agb:A0n:=[A0l 3 [4],A0l 30 [0,4,42,43]]
def Ah3:Lk:=⟨[],[(30,⟨[(0,.i),(4,.c x64),(42,.i),(43,.c x64)],[]⟩,[(0,⟨[(4,.c x64)],[]⟩)])]⟩
def Ah4:=JO 221 [Jw] [Jz,Jz] (AaX N) [] Agb Ah3 f221 N (bb:=[8,12,16,20,21,25,29,30,31,32])
def Ae9:A0n:=[A0l 3 [],A0l 10 [0,3]]
def Agw:Lk:=⟨[],[(10,⟨[(0,.i),(3,.c x64)],[]⟩,[(0,⟨[],[]⟩)])]⟩
def Agx:=JO 329 [.cell false (.sl 164 Tq5)] [JQ] (yA N) [] Ae9 Agw f329 N
def Ahy:A0n:=[(3,⟨[3],[([3],3,Au,Azz)],[],[(Azs,Azz)],[]⟩),A0l 7 [0,3,4],A0l 11 [],(14,⟨[0,3,4],[([3],3,Au,Azs)],[],[(42240,Azs)],[]⟩),(30,⟨[0,3,4,5],[([3],3,Au,Azt)],[],[(Azs,Azt)],[]⟩)]
def Aj7:Lk:=⟨[],[(14,⟨[(0,.i),(3,.c (xo Azs)),(4,.c x64)],[(Azs,.arr 3 false Au)]⟩,[(0,⟨[(3,.c (xo Azz))],[(Azz,.arr 3 false Au)]⟩)]),(30,⟨[(0,.i),(3,.c (xo Azt)),(4,.c x64),(5,.c x64)],[(Azt,.arr 3 false Au)]⟩,[(1,⟨[(0,.i),(3,.c (xo 42240)),(4,.c x64)],[(42240,.arr 3 false Au)]⟩),(2,⟨[],[]⟩)])]⟩
def Aj8:=JO 295 [Jw] [Sq4] (Adk N) [] Ahy Aj7 f295 N
def AdJ:=JB 224 [Xy,Jz] [Sq6,JQ] (λa=>qK N a.1 a.2) [] f224 N
def Xj:=JB 64 [.cell false .ptr] [JQ] (YR N) [] f64 N
def AjM:A0n:=[(3,⟨[4],[([4],3,Au,Azv)],[],[(Azs,Azv)],[]⟩),(11,⟨[0,4,6,8],[([4],3,Au,Azu)],[],[(Azt,Azu)],[]⟩),(18,⟨[0,4,5,6],[([4],3,Au,Azs)],[],[(53760,Azs)],[]⟩),(58,⟨[0,4,6,7,8,9],[([4],3,Au,Azt)],[],[(Azs,Azt)],[]⟩)]
def AmF:Lk:=⟨[],[(18,⟨[(0,.i),(4,.c (xo Azs)),(5,.c x64),(6,.c x64)],[(Azs,.arr 3 false Au)]⟩,[(0,⟨[(4,.c (xo Azv))],[(Azv,.arr 3 false Au)]⟩)]),(58,⟨[(0,.i),(4,.c (xo Azt)),(6,.i),(7,.i),(8,.c x64),(9,.c x64)],[(Azt,.arr 3 false Au)]⟩,[(2,⟨[(0,.i),(4,.c (xo Azu)),(6,.i),(8,.c x64)],[(Azu,.arr 3 false Au)]⟩)])]⟩
def Abk:=JO 200 [Jw] [Sq4,JQ] (W9 N) [] AjM AmF f200 N (bb:=[43,47,48,52,56,57,58,62,88,93,94,99,104,105])
def AjR:A0n:=[A0l 3 [],A0l 10 [0,3],A0l 15 [0,3,5,6,7],A0l 65 [0,3,4,5,6],A0l 82 [0,3,5,6,7,8]]
def AmG:Lk:=⟨[(65,⟨[(0,.i),(3,.c x64),(4,.i),(5,.c x64),(6,.c x64)],[]⟩)],[(10,⟨[(0,.i),(3,.c x64)],[]⟩,[(0,⟨[],[]⟩)]),(82,⟨[(0,.i),(3,.i),(5,.i),(6,.i),(7,.c x64),(8,.c x64)],[]⟩,[(3,⟨[(0,.i),(3,.i),(5,.i),(6,.i),(7,.c x64)],[]⟩)])]⟩
def AmH:=JO 271 [Jw] [JQ] (YJ N) [] AjR AmG f271 N (bb:=[87,90,91,94,97,98])
open Go.Proofs Go.Proofs.Tryz
def dP:=JO 272 [.cell false (.int .u8)] [JQ] (QN N) [] [] A0o f272 N (bb:=[5,8,9,12,15,16,17,20,23,24])
def AhC:A0n:=[A0l 3 [],A0l 10 [0,1,5]]
def AjG:Lk:=⟨[],[(10,⟨[(0,.i),(1,.i),(5,.c x64)],[]⟩,[(0,⟨[],[]⟩)])]⟩
def xQ:=JO 273 [.cell false (.int .u8),Jw] [JQ] (λa=>Tm N a.1 a.2) [] AhC AjG f273 N
def XC:=JO 41 [Sq6] [Jz] (PO N) [] [] A0o f41 N (bb:=[6,10,11,16,17,22])
def AmR:=JB 94 [Jz] [JQ] (PV N) [] f94 N
def AhL:A0n:=[(3,⟨[5],[([5],9,Aq,Azt)],[],[(Azs,Azt)],[]⟩),(18,⟨[0,1,5,6,7],[([5],9,Aq,Azs)],[],[(40704,Azs)],[]⟩)]
def AjV:Lk:=⟨[],[(18,⟨[(0,.i),(1,.i),(5,.c (xo Azs)),(6,.c x64),(7,.c x64)],[(Azs,.arr 9 false Aq)]⟩,[(0,⟨[(5,.c (xo Azt))],[(Azt,.arr 9 false Aq)]⟩)])]⟩
def xY:=JO 324 [Jw,.cell false (.int .u8)] [Sq1] (λa=>QP N a.1 a.2) [] AhL AjV f324 N
def AhK:A0n:=[A0l 3 [],A0l 26 [0,3,4,5]]
def AjT:Lk:=⟨[],[(26,⟨[(0,.i),(3,.i),(4,.c xb),(5,.c x64)],[]⟩,[(0,⟨[],[]⟩)])]⟩
def AjU:=JO 278 [Jw] [JQ] (Xg N) [] AhK AjT f278 N (bb:=[37,39,40,43,54,55])
def Agj:=JB 279 [Jw] [JQ] (UU N) [] f279 N
def AhS:A0n:=[A0l 3 [3],A0l 14 [3,57,58,59]]
def Aka:Lk:=⟨[],[(14,⟨[(3,.c x64),(57,.c (xo 47360)),(58,.i),(59,.c x64)],[(47360,.arr 4 false (.bool .nil))]⟩,[(0,⟨[(3,.c x64)],[]⟩)])]⟩
def Akb:=JO 100 [Sq2] [Jz] (Xh N) [] AhS Aka f100 N
open Go.Proofs Go.Proofs.Tryz
def Akf:=JB 201 [] [Sq1] (λ_=>aG N) [] f201 N
def Akc:A0n:=[A0l 3 [4],A0l 10 [1,4,8,9,10]]
def AmP:Lk:=⟨[],[(10,⟨[(1,.i),(4,.c AU),(8,.i),(9,.i),(10,.c x64)],[(Az0,.box [AA,AV,AA])]⟩,[(0,⟨[(4,.c AU)],[(Az0,.box [AA,AV,AA])]⟩)])]⟩
def Abw:=JO 103 [.cell false (.sl 118 Tq3),Jw] [Ax8,JQ] (λa=>WC N a.1 a.2) [] Akc AmP f103 N
def AjJ:A0n:=[A0l 3 [0,2,5,6,8],A0l 70 [0,2,5,6,8,9],A0l 97 [0,2,5,6,7]]
def AmC:Lk:=⟨[(97,⟨[(0,.i),(2,.c AP),(5,.c AX),(6,.c x64),(7,.c x64)],[(Azw,.box Bv),(Az2,.box Bv)]⟩)],[(70,⟨[(0,.i),(2,.c AP),(5,.c AX),(6,.c x64),(8,.i),(9,.c x64)],[(Azw,.box Bv),(Az2,.box Bv)]⟩,[(0,⟨[(0,.i),(2,.c AP),(5,.c AX),(6,.c x64),(8,.i)],[(Azw,.box Bv),(Az2,.box Bv)]⟩)])]⟩
def Abg:=JO 280 [Jw] [Sq6,Jw,Jz] (YH N) [] AjJ AmC f280 N
def AjK:A0n:=[A0l 3 [0,6],A0l 22 [0,6,22,23,24],(77,⟨[6,10],[],[],[(43008,Azu),(46592,Azu),(49408,Azu),(51456,Azu)],[]⟩)]
def AmE:Lk:=⟨[(77,⟨[(6,.i),(10,.c (xo Azu))],[(Azu,.arr 5 false Ar)]⟩)],[(22,⟨[(0,.i),(6,.c xs),(22,.i),(23,.i),(24,.c x64)],[]⟩,[(0,⟨[(0,.i),(6,.c xs)],[]⟩)])]⟩
def Abj:=JO 83 [Jz,Sq1] [Jw,Jz] (λa=>YI N a.1 a.2) [] AjK AmE f83 N
def AhG:A0n:=[(3,⟨[3],[([3],9,Aq,Azv)],[],[(Azs,Azv)],[]⟩),(11,⟨[3,5,6,10,11,12],[([3],9,Aq,Azu)],[],[(Azt,Azu)],[Azu]⟩),(14,⟨[3,10,11,12],[([3],9,Aq,Azs)],[],[(43008,Azs)],[]⟩),A0l 19 [7],(26,⟨[3,5,6,10,11,12],[([3],9,Aq,Azt)],[],[(Azs,Azt)],[]⟩),A0l 50 [7,42,43,44]]
def AjH:Lk:=⟨[],[(14,⟨[(3,.c (xo Azs)),(10,.i),(11,.i),(12,.c x64)],[(Azs,.arr 9 false Aq)]⟩,[(0,⟨[(3,.c (xo Azv))],[(Azv,.arr 9 false Aq)]⟩)]),(26,⟨[(3,.c (xo Azt)),(5,.i),(6,.c x64),(10,.i),(11,.i),(12,.i)],[(Azt,.arr 9 false Aq)]⟩,[(2,⟨[(3,.c (xo Azu)),(5,.i),(6,.c x64),(10,.i),(11,.i),(12,.i)],[(Azu,.arr 9 true Aq)]⟩)]),(50,⟨[(7,.c xs),(42,.c (xo Azv)),(43,.i),(44,.c x64)],[(Azv,.arr 9 false Aq)]⟩,[(4,⟨[(7,.c xs)],[]⟩)])]⟩
def AjI:=JO 77 [Sq1] [Jw] (ZZ N) [] AhG AjH f77 N
def wG:=JB 112 [Jz] [Jw] (Q8 N) [] f112 N
def yR:A0n:=[A0l 3 [4],(11,⟨[4],[],[(none,4,Ar)],[],[]⟩),(18,⟨[3,4,5],[([4],5,Ar,Azs)],[],[(37632,Azs)],[]⟩),(30,⟨[4],[],[(none,4,Ar)],[],[]⟩)]
def Abe:Lk:=⟨[],[(18,⟨[(3,.i),(4,.c (xo Azs)),(5,.c x64)],[(Azs,.arr 5 false Ar)]⟩,[(0,⟨[(4,.c (xo Azs))],[(Azs,.arr 5 false Ar)]⟩)]),(30,⟨[(4,.c Bh)],[]⟩,[(2,⟨[(4,.c Bh)],[]⟩)])]⟩
def Abf:=JO 84 [Jz] [Jw] (PL N) [] yR Abe f84 N (bb:=[23,28,33,34,39,44,45,46])
def bW:=JB 256 [JQ] [Jw] (UA N) [] f256 N
open Go.Proofs Go.Proofs.Tryz
def Abi:A0n:=[A0l 7 [],A0l 25 [0,1,11],A0l 30 [0,1,5]]
def AcD:Lk:=⟨[(25,⟨[(0,.i),(1,.i),(11,.c xb)],[]⟩)],[(30,⟨[(0,.i),(1,.i),(5,.c x64)],[]⟩,[(1,⟨[],[]⟩)])]⟩
def AcE:=JO 198 [Jz,Jw] [JQ] (λa=>Nq N a.1 a.2) [AmH N,dP N,xQ N] Abi AcD f198 N (bb:=[22,27,32,33,34,37,43,44,50,51])
def AmJ:A0n:=[A0l 3 [],A0l 11 [10,11,12],A0l 18 [10,11,12],A0l 38 [4,5,10,11,12]]
def Aok:Lk:=⟨[],[(18,⟨[(10,.i),(11,.i),(12,.c x64)],[]⟩,[(0,⟨[],[]⟩)]),(38,⟨[(4,.i),(5,.c x64),(10,.i),(11,.i),(12,.i)],[]⟩,[(2,⟨[(10,.i),(11,.i),(12,.i)],[]⟩)])]⟩
def aA:=JO 322 [Jw] [JQ] (NT N) [xY N,dP N] AmJ Aok f322 N (bb:=[19,23,24,28,29,36])
def AhT:A0n:=[A0l 3 [],A0l 10 [0,5,6,7]]
def Akd:Lk:=⟨[],[(10,⟨[(0,.i),(5,.i),(6,.i),(7,.c x64)],[]⟩,[(0,⟨[],[]⟩)])]⟩
def Ake:=JO 102 [Jw] [JQ] (aF N) [Akf N] AhT Akd f102 N
def Aoi:=JB 202 [Jw] [Sq6,Jz] (mP N) [Abg N] f202 N
def AhH:A0n:=[A0l 3 [],A0l 18 [1,5]]
def AjN:Lk:=⟨[],[(18,⟨[(1,.i),(5,.c xs)],[]⟩,[(0,⟨[],[]⟩)])]⟩
def ZF (N n:Nat):Sig:=.of [Sq6,.cell false (.int .i64)] [.cell false (.int .i64)] (λa=>Tn N n a.1 a.2)
def eQ (N:Nat): ∀ n,Spec Tryz.prog 203 (ZF N n)
 | 0=>AbA (C:=ctx Tryz.prog [] []) (fn:=f203) (MB (gs:=[]) trivial)
 | n+1=>Vk (C:=ctx Tryz.prog ((203,ZF N n)::(ksp [Abg N])) AhH) (L:=AjN) (fn:=f203) (N:=N) (MB ⟨eQ N n,(Oe _)⟩)
def xW:Sig:=ZF N N
def Aew (N:Nat):Spec Tryz.prog 203 (xW N):=eQ N N
def LV:=JB 76 [Jz,Sq1] [Jw] (λa=>JI N a.1 a.2) [Abj N] f76 N
def Abd:A0n:=[(3,⟨[6],[([6],5,Ar,Az9)],[],[(Azs,Az9)],[]⟩),(11,⟨[6,9,30,31,32],[([6],5,Ar,Azu)],[],[(Az1,Azu)],[]⟩),(19,⟨[6,9,30,31,32],[([6],5,Ar,Azz)],[],[(Azv,Azz)],[]⟩),(30,⟨[6,30,31,32],[([6],5,Ar,Azs)],[],[(48384,Azs)],[]⟩),(42,⟨[6,8,9,30,31,32],[([9],5,Ar,Azt),([6],5,Ar,Az1)],[],[(AzF,Azt),(Azs,Az1)],[]⟩),(58,⟨[6,9,10,30,31,32],[([6],5,Ar,Azv)],[],[(Azu,Azv)],[]⟩)]
def AcA:Lk:=⟨[],[(30,⟨[(6,.c (xo Azs)),(30,.c (xo Az5)),(31,.i),(32,.c x64)],[(Az5,.arr 3 false Au),(Azs,.arr 5 false Ar)]⟩,[(0,⟨[(6,.c (xo Az9))],[(Az9,.arr 5 false Ar)]⟩)]),(42,⟨[(6,.c (xo Az1)),(8,.c x64),(9,.c (xo Azt)),(30,.c (xo Az5)),(31,.i),(32,.i)],[(Az5,.arr 3 false Au),(Azt,.arr 5 false Ar),(Az1,.arr 5 false Ar)]⟩,[(2,⟨[(6,.c (xo Azu)),(9,.c (xo AzF)),(30,.c (xo Az5)),(31,.i),(32,.i)],[(Az5,.arr 3 false Au),(AzF,.arr 5 false Ar),(Azu,.arr 5 false Ar)]⟩)]),(58,⟨[(6,.c (xo Azv)),(9,.c (xo AzF)),(10,.c x64),(30,.c (xo Az5)),(31,.i),(32,.i)],[(Az5,.arr 3 false Au),(AzF,.arr 5 false Ar),(Azv,.arr 5 false Ar)]⟩,[(4,⟨[(6,.c (xo Azz)),(9,.c (xo AzF)),(30,.c (xo Az5)),(31,.i),(32,.i)],[(Az5,.arr 3 false Au),(AzF,.arr 5 false Ar),(Azz,.arr 5 false Ar)]⟩)])]⟩
def AcB:=JO 255 [Jw] [Jw,Jz] (V4 N) [Abk N] Abd AcA f255 N
def Aol:=JB 80 [Sq6] [Jw] (Ab1 N) [wG N] f80 N
open Go.Proofs Go.Proofs.Tryz
def Vh:=JB 35 [Jz,Sq1] [Jw,Jz] (λa=>LU N a.1 a.2) [Abj N] f35 N
open Go.Proofs Go.Proofs.Tryz
def AcC:A0n:=[A0l 3 [0,4],A0l 11 [6],A0l 22 [0,4,5],A0l 50 [0,4,6,7]]
def Aeu:Lk:=⟨[],[(22,⟨[(0,.i),(4,.c x64),(5,.c x64)],[]⟩,[(0,⟨[(0,.i),(4,.c x64)],[]⟩)]),(50,⟨[(0,.i),(4,.i),(6,.c (xo Az5)),(7,.c x64)],[(Az5,.arr 5 false Ar)]⟩,[(2,⟨[(6,.c (xo Az5))],[(Az5,.arr 5 false Ar)]⟩)])]⟩
def Aev:=JO 257 [Jz] [Jw,Jz] (Wy N) [] AcC Aeu f257 N
def AmM:=JB 109 [Jw] [Jz,JQ] (WB N) [] f109 N
def Agl:A0n:=[(3,⟨[4,5],[([4],3,Au,Azt)],[],[(Azs,Azt)],[]⟩),(26,⟨[0,4,5,6],[([4],3,Au,Azs)],[],[(AzD,Azs)],[]⟩)]
def AhO:Lk:=⟨[],[(26,⟨[(0,.i),(4,.c (xo Azs)),(5,.c x64),(6,.c x64)],[(Azs,.arr 3 false Au)]⟩,[(0,⟨[(4,.c (xo Azt)),(5,.c x64)],[(Azt,.arr 3 false Au)]⟩)])]⟩
def AhP:=JO 211 [Jw] [Sq4,Jz] (YL N) [] Agl AhO f211 N
open Go.Proofs Go.Proofs.Tryz
def dR:=JB 111 [Sq1] [Jw] (MZ N) [Adq N] f111 N
open Go.Proofs Go.Proofs.Tryz
def Amc:A0n:=[(3,⟨[5],[([5],9,Aq,Azz)],[],[(Azs,Azz)],[]⟩),(11,⟨[0,1,5,6,7,8],[([5],9,Aq,Azv)],[],[(Azu,Azv)],[]⟩),(14,⟨[0,1,5,6],[([5],9,Aq,Azs)],[],[(44288,Azs),(Azv,Azs)],[]⟩),(33,⟨[0,1,5,6,7],[([5],9,Aq,Azt)],[],[(Azs,Azt)],[]⟩),(42,⟨[0,1,5,6,7,8,27,28,29],[([5,27],9,Aq,Azu)],[],[(Azt,Azu)],[]⟩)]
def AnQ:Lk:=⟨[(33,⟨[(0,.c AO),(1,.i),(5,.c (xo Azt)),(6,.i),(7,.c xs)],[(0,.box Bq),(Azt,.arr 9 false Aq)]⟩)],[(14,⟨[(0,.c AO),(1,.i),(5,.c (xo Azs)),(6,.c x64)],[(0,.box Bq),(Azs,.arr 9 false Aq)]⟩,[(0,⟨[(5,.c (xo Azz))],[(0,.box Bq),(Azz,.arr 9 false Aq)]⟩)]),(42,⟨[(0,.c AO),(1,.i),(5,.c (xo Azu)),(6,.i),(7,.i),(8,.c xb),(27,.c (xo Azu)),(28,.i),(29,.c x64)],[(0,.box Bq),(Azu,.arr 9 false Aq)]⟩,[(2,⟨[(0,.c AO),(1,.i),(5,.c (xo Azv)),(6,.i),(7,.i),(8,.c xb)],[(0,.box Bq),(Azv,.arr 9 false Aq)]⟩)])]⟩
def AnR:=JO 121 [Sq5,JQ] [Sq1] (λa=>bM N a.1 a.2) [LD N,xO N] Amc AnQ f121 N
def Aeg:A0n:=[(3,⟨[3],[([3],88,(.str Aq),Azv)],[],[(Azs,Azv)],[]⟩),(11,⟨[0,3,4,5,6],[([3],88,(.str Aq),Azu)],[],[(Azt,Azu)],[]⟩),(14,⟨[0,3,4],[([3],88,(.str Aq),Azs)],[],[(AzF,Azs),(Azu,Azs)],[]⟩),(34,⟨[0,3,4,5,6,23,24,25],[([3,23],88,(.str Aq),Azt)],[],[(Azs,Azt)],[]⟩)]
def AfG:Lk:=⟨[],[(14,⟨[(0,.c AO),(3,.c (xo Azs)),(4,.c x64)],[(0,.box Bq),(Azs,.arr 88 false (.str Aq))]⟩,[(0,⟨[(3,.c (xo Azv))],[(0,.box Bq),(Azv,.arr 88 false (.str Aq))]⟩)]),(34,⟨[(0,.c AO),(3,.c (xo Azt)),(4,.i),(5,.c AX),(6,.c xb),(23,.c (xo Azt)),(24,.i),(25,.c x64)],[(0,.box Bq),(Az2,.box [xs,xs]),(Azt,.arr 88 false (.str Aq))]⟩,[(2,⟨[(0,.c AO),(3,.c (xo Azu)),(4,.i),(5,.c AX),(6,.c xb)],[(0,.box Bq),(Az2,.box [xs,xs]),(Azu,.arr 88 false (.str Aq))]⟩)])]⟩
def AfH:=JO 122 [Sq5] [Aub] (Xu N) [LD N,xO N] Aeg AfG f122 N
def Ac4:A0n:=[A0l 17 [0,2,3]]
def AdZ:Lk:=⟨[(17,⟨[(0,.i),(2,.c AP),(3,.c xs)],[(Azw,.box BC),(AzB,.Lr 82 false Az)]⟩)],[]⟩
def Aea:=JO 218 [Jz] [Sq0] (TS N) [⟨288,Adp N,AhE N⟩] Ac4 AdZ f218 N
def QC:=JB 128 [Xy,Jz] [Sq6,Jz] (λa=>Qm N a.1 a.2) [jG N] f128 N
def Aj5:A0n:=[(3,⟨[7],[([7],9,Aq,Azt)],[],[(Azs,Azt)],[]⟩),(34,⟨[7,36,37,38],[([7],9,Aq,Azs)],[],[(45056,Azs)],[]⟩)]
def Amm:Lk:=⟨[],[(34,⟨[(7,.c (xo Azs)),(36,.c (xo 41728)),(37,.i),(38,.c x64)],[(41728,.arr 3 false Au),(Azs,.arr 9 false Aq)]⟩,[(0,⟨[(7,.c (xo Azt))],[(Azt,.arr 9 false Aq)]⟩)])]⟩
def AaP:=JO 227 [Jw] [Jw,Jz] (vO N) [Aj8 N,⟨296,sF N,AcR N⟩,⟨178,ZG N,eY N⟩] Aj5 Amm f227 N
def Ado:=JB 135 [Jw] [Jw,Jz,Jz] (AaW N) [Aba N] f135 N
def Zq (N:Nat):Yd Tryz.prog 132 true (.of [mY,Xy] [.cell false (.int .i64)] (λa=>Qz N a.1 a.2)):=Qh (C:=ctx Tryz.prog (ksp [AdJ N]) []) (L:=⟨[],[]⟩) (fn:=f132) (N:=N) (MB (Oe _)) (by kernel_rfl) (by kernel_rfl) (λa=>by kernel_rfl)
def Rq:=JB 101 [Jw] [JQ] (LM N) [Abk N] f101 N
open Go.Proofs Go.Proofs.Tryz
def Amb:A0n:=[(3,⟨[2,3],[],[],[(33637,Azv),(Azs,Azv)],[]⟩),(11,⟨[0,2,3,4,5],[([5],84,Tq0,Azu)],[],[(33637,AzA),(Azt,Azu),(Az1,AzA)],[]⟩),(14,⟨[0,2,3,4],[],[],[(33637,Azs),(44288,Azs)],[]⟩),(30,⟨[0,2,3,4,5,6],[([5],84,Tq0,Azt)],[],[(33637,Az1),(43008,Azt),(Azs,Az1)],[]⟩)]
def AnP:Lk:=⟨[],[(14,⟨[(0,.c AO),(2,.c AP),(3,.c AQ),(4,.c x64)],[(0,.box Bq),(Azw,.box BC),(AzB,.Lr 82 false Az),(Azy,.box [(xo Azs)]),(Azs,.arr 82 false Az)]⟩,[(0,⟨[(2,.c AP),(3,.c AQ)],[(0,.box Bq),(Azw,.box BC),(AzB,.Lr 82 false Az),(Azy,.box [(xo Azv)]),(Azv,.arr 82 false Az)]⟩)]),(30,⟨[(0,.c AO),(2,.c AP),(3,.c AQ),(4,.i),(5,.c (xo Azt)),(6,.c x64)],[(0,.box Bq),(Azw,.box BC),(AzB,.Lr 82 false Az),(Azy,.box [(xo Az1)]),(Azt,.arr 84 false Tq0),(Az1,.arr 82 false Az)]⟩,[(2,⟨[(0,.c AO),(2,.c AP),(3,.c AQ),(4,.i),(5,.c (xo Azu))],[(0,.box Bq),(Azw,.box BC),(AzB,.Lr 82 false Az),(Azy,.box [(xo AzA)]),(Azu,.arr 84 false Tq0),(AzA,.arr 82 false Az)]⟩)])]⟩
def o7:=JO 54 [Sq5] [Sq0] (Ui N) [LD N,Aef N] Amb AnP f54 N
def Aox:A0n:=[(3,⟨[4],[([4],164,Tq5,Azt)],[],[(Azs,Azt)],[]⟩),(10,⟨[0,4],[([4],164,Tq5,Azs)],[],[(38400,Azs)],[]⟩)]
def Ar4:Lk:=⟨[],[(10,⟨[(0,.c xs),(4,.c (xo Azs))],[(Azs,.arr 164 false Tq5)]⟩,[(0,⟨[(4,.c (xo Azt))],[(Azt,.arr 164 false Tq5)]⟩)])]⟩
def WL:=JO 220 [Jw] [.cell false (.sl 164 Tq5),Jz] (XG N) [xG N] Aox Ar4 f220 N
def fJ (N:Nat):Yd Tryz.prog 129 true (.of [mY,Xy] [.cell false (.int .i64)] (λa=>RH N a.1 a.2)):=Qh (C:=ctx Tryz.prog (ksp [QC N,Ah4 N]) []) (L:=⟨[],[]⟩) (fn:=f129) (N:=N) (MB (Oe _)) (by kernel_rfl) (by kernel_rfl) (λa=>by kernel_rfl)
def qW:=JB 292 [Apv,Sq6] [Jz] (λa=>Vq N a.1 a.2) [Ado N,Wx N] f292 N
def Zr:A0n:=[A0l 29 [1,4,5]]
def aW:Lk:=⟨[(29,⟨[(1,.c AB),(4,.c x64),(5,.i)],[(0,.box Bo),(256,.box [(xl Tq5)]),(Azx,.box [AO,(.c (.ptr 256 0))])]⟩)],[]⟩
def aX (N:Nat):Yd Tryz.prog 62 true (.of [mY,Xy] [.cell false (.int .i64)] (λa=>QF N a.1 a.2)):=Qh (C:=ctx Tryz.prog (ksp [QC N,Ado N]) Zr) (L:=aW) (fn:=f62) (N:=N) (MB (Oe _)) (by kernel_rfl) (by kernel_rfl) (λa=>by kernel_rfl)
def kH:A0n:=[A0l 3 [],A0l 10 [0,6,7,8],A0l 11 [0,6,7,8],A0l 46 [0,3,4,5,6,7,8]]
def lC:Lk:=⟨[],[(10,⟨[(0,.i),(6,.i),(7,.i),(8,.c x64)],[]⟩,[(0,⟨[],[]⟩)]),(46,⟨[(0,.i),(3,.i),(4,.c AU),(5,.c x64),(6,.i),(7,.i),(8,.i)],[(Az0,.box [xs,x64,xs])]⟩,[(2,⟨[(0,.i),(6,.i),(7,.i),(8,.i)],[]⟩)])]⟩
def lD:=JO 93 [.cell false (.sl 84 Tq0)] [Jz] (MF N) [Rq N,AcE N] kH lC f93 N
def Abz:A0n:=[A0l 3 [],A0l 11 [0,12,13,14],A0l 18 [0,12,13,14],A0l 38 [0,5,6,7,12,13,14]]
def AcM:Lk:=⟨[],[(18,⟨[(0,.i),(12,.i),(13,.i),(14,.c x64)],[]⟩,[(0,⟨[],[]⟩)]),(38,⟨[(0,.i),(5,.i),(6,.i),(7,.c x64),(12,.i),(13,.i),(14,.i)],[]⟩,[(2,⟨[(0,.i),(12,.i),(13,.i),(14,.i)],[]⟩)])]⟩
def AcN:=JO 95 [Sq1,Jz] [Jz] (λa=>SG N a.1 a.2) [Rq N] Abz AcM f95 N
def oM:A0n:=[A0l 3 [],A0l 11 [0,9,10,11],A0l 18 [0,9,10,11],A0l 38 [0,3,4,5,9,10,11]]
def rV:Lk:=⟨[],[(18,⟨[(0,.i),(9,.i),(10,.i),(11,.c x64)],[]⟩,[(0,⟨[],[]⟩)]),(38,⟨[(0,.i),(3,.i),(4,.c AU),(5,.c x64),(9,.i),(10,.i),(11,.i)],[(Az0,.box [xs,xs])]⟩,[(2,⟨[(0,.i),(9,.i),(10,.i),(11,.i)],[]⟩)])]⟩
def rW:=JO 96 [Aub] [Jz] (RD N) [Rq N] oM rV f96 N
open Go.Proofs Go.Proofs.Tryz
def YY:=JB 75 [] [Jw] (λ_=>NK N) [YC N,PW N] f75 N
def Ug:Sig:=.of [Jw,Jz] [Sq6,Jz] (λa=>Zu N a.1 a.2)
def Aaj:pI 126 (Ug N):=AbW (AbQ (ksp [mX N]) []) A0o f126 N (MB (Oe _))
def AqD:=JB 55 [Sq5] [Sq6] (vH N) [LD N,Adg N] f55 N
def qY:=JB 123 [Sq5] [Ag5] (TT N) [LD N,o7 N] f123 N
def AnL:=JB 217 [Sq5] [Ag5] (XP N) [LD N,o7 N] f217 N
def Wn (N:Nat):Alt:=.of [.cell false .str] [Xy,.cell false (.int .i64)] [.cell false .ptr,.cell false (.int .i64)] (λa=>jE N a)
def jF (N:Nat):Spec Tryz.prog 127 (Wn N).1/\Spec Tryz.prog 127 (Wn N).2.1:=Yf (C:=ctx Tryz.prog (ksp [WL N]) []) (L:=⟨[],[]⟩) (fn:=f127) (N:=N) (MB (Oe _)) (by kernel_rfl) (by kernel_rfl) (λa=>by kernel_rfl)
def jI:A0n:=[A0l 85 [2,4,5,7]]
def kW:Lk:=⟨[(85,⟨[(2,.c AP),(4,.c AU),(5,.i),(7,.i)],[(Azw,.box [AA,AL,AA]),(Az0,.box [AA,AL,AA])]⟩)],[]⟩
def kX:=JO 330 [Sq6] [Auc,Jz] (XL N) [WL N,AaP N] jI kW f330 N
def VN:=JB 134 [Sq6] [Jz] (Tc N) [WL N,AaP N] f134 N
open Go.Proofs Go.Proofs.Tryz
def AhN:A0n:=[A0l 3 [0,5],A0l 11 [0,5],A0l 18 [0,5],A0l 38 [0,5,6]]
def AjX:Lk:=⟨[],[(18,⟨[(0,.i),(5,.c x64)],[]⟩,[(0,⟨[(0,.i),(5,.c x64)],[]⟩)]),(38,⟨[(0,.i),(5,.i),(6,.c x64)],[]⟩,[(2,⟨[(0,.i),(5,.i)],[]⟩)])]⟩
def AjY:=JO 323 [Jw] [Jw,Jw,JQ] (aC N) [aA N,dP N,xQ N] AhN AjX f323 N (bb:=[24,27,28,33,34,41,42,46,47,53,64,70,71,76,82,83])
def AmI:=JB 276 [Jw] [JQ] (YK N) [aA N] f276 N
def Agk:=JO 277 [Jw] [JQ] (UW N) [aA N,xY N] [] A0o f277 N (bb:=[5,9,13,14,18,19,23,24,29,30])
def xR:=JB 104 [Jw] [Jz] (Vg N) [Aoi N,⟨203,xW N,Aew N⟩] f104 N
def aB:=JB 186 [Jw] [Jw] (Qe N) [AcB N,LV N] f186 N
def rX:=JB 36 [Jz,Jz] [Jw] (λa=>LW N a.1 a.2) [Abf N,LV N] f36 N
def Agp:=JB 187 [Jz,JQ] [Jw] (λa=>Xw N a.1 a.2) [bW N,LV N] f187 N
def xZ:=JB 188 [Jz,Jz] [Jw] (λa=>QQ N a.1 a.2) [Aev N,LV N] f188 N
open Go.Proofs Go.Proofs.Tryz
def Abl:A0n:=[A0l 3 [],A0l 18 [11,12,13]]
def AcF:Lk:=⟨[],[(18,⟨[(11,.i),(12,.i),(13,.c x64)],[]⟩,[(0,⟨[],[]⟩)])]⟩
def TA:=JO 40 [Sq0] [Jz] (Nr N) [lD N] Abl AcF f40 N
def Abp:=JB 275 [Jw] [JQ] (WA N) [AjY N] f275 N
def yU:A0n:=[(3,⟨[3],[([3],9,Aq,Azt)],[],[(Azs,Azt)],[]⟩),(14,⟨[3,6,7,8],[([3],9,Aq,Azs)],[],[(39168,Azs)],[]⟩)]
def Abq:Lk:=⟨[],[(14,⟨[(3,.c (xo Azs)),(6,.i),(7,.i),(8,.c x64)],[(Azs,.arr 9 false Aq)]⟩,[(0,⟨[(3,.c (xo Azt))],[(Azt,.arr 9 false Aq)]⟩)])]⟩
def Abr:=JO 78 [.cell false (.sl 84 Tq0)] [Sq1] (UC N) [aB N,LV N] yU Abq f78 N
def AcH:=JB 79 [] [Jw] (λ_=>SE N) [aB N,LV N] f79 N
def Abx:A0n:=[A0l 3 [],A0l 10 [0,8,9,10]]
def AcK:Lk:=⟨[],[(10,⟨[(0,.i),(8,.i),(9,.i),(10,.c x64)],[]⟩,[(0,⟨[],[]⟩)])]⟩
def AcL:=JO 313 [.cell false (.sl 118 Tq3)] [Jz] (YN N) [Rq N,Abw N,xR N] Abx AcK f313 N
def AjZ:A0n:=[A0l 3 [5],A0l 10 [0,1,2,4,5,13]]
def AmN:Lk:=⟨[],[(10,⟨[(0,.i),(1,.i),(2,.i),(4,.i),(5,.c xs),(13,.c x64)],[]⟩,[(0,⟨[(5,.c xs)],[]⟩)])]⟩
def AmO:=JO 212 [Jw,Jz,Jz,Jz,Jz,Jw] [Jw] (λa=>wH N a.1 a.2.1 a.2.2.1 a.2.2.2.1 a.2.2.2.2.1 a.2.2.2.2.2) [gG N,wG N,dR N] AjZ AmN f212 N
open Go.Proofs Go.Proofs.Tryz
def aV (N:Nat):Yd Tryz.prog 61 true (.of [mY,Xy] [.cell false (.int .i64)] (λa=>QE N a.1 a.2)):=Qh (C:=ctx Tryz.prog (ksp [jG N,VN N]) []) (L:=⟨[],[]⟩) (fn:=f61) (N:=N) (MB (Oe _)) (by kernel_rfl) (by kernel_rfl) (λa=>by kernel_rfl)
def Aey:=JO 274 [Jw] [JQ] (Ua N) [Abp N,aA N] [] A0o f274 N (bb:=[5,8,9,13,17,18,22,23,27,28])
def yT:A0n:=[A0l 3 [5],A0l 26 [5,14,15,16]]
def Abn:Lk:=⟨[],[(26,⟨[(5,.c xs),(14,.i),(15,.i),(16,.c x64)],[]⟩,[(0,⟨[(5,.c xs)],[]⟩)])]⟩
def bY:=JO 32 [Sq0] [Jw,Jz] (Ru N) [TA N,Abr N,AjI N,LV N] yT Abn f32 N
def AcJ:=JB 33 [Sq6] [Jw,Jz] (V5 N) [XC N,AcH N,Aol N,LV N] f33 N
def lF:=JB 262 [.cell false (.sl 118 Tq3)] [Jz] (Qs N) [AcL N] f262 N
def Ae0:A0n:=[A0l 3 [0,1,12],A0l 50 [0,1,3,10,12,35,36]]
def Agm:Lk:=⟨[],[(50,⟨[(0,.i),(1,.i),(3,.i),(10,.i),(12,.c xs),(35,.i),(36,.c x64)],[]⟩,[(0,⟨[(0,.i),(1,.i),(12,.c xs)],[]⟩)])]⟩
def Agn:=JO 110 [Jw,Jz,Jw,Jw] [Jw,Jz] (λa=>Xv N a.1 a.2.1 a.2.2.1 a.2.2.2) [AhP N,AmO N,gG N,dR N] Ae0 Agm f110 N
open Go.Proofs Go.Proofs.Tryz
def AdX:=JB 30 [Sq6] [Jw,Jz] (TR N) [Wx N,Ac3 N,rJ N,PW N,YY N] f30 N
def Qx:Sig:=.of [.box [(false,.bool)],.box [(false,.str)],.box [(false,.str)]] [Jw] (λa=>QL N a.1 a.2.1 a.2.2)
def Adz:pI 215 (Qx N):=AbW (AbQ (ksp [YY N,rJ N,LJ N,Ls N,LX N]) []) A0o f215 N (MB (Oe _))
def Aee:A0n:=[(3,⟨[0,2,3],[],[],[(33637,Azt),(Azs,Azt)],[]⟩),(11,⟨[0,2,3],[],[],[(33638,Azv),(Azu,Azv)],[]⟩),(14,⟨[0,2,3,4],[],[],[(33637,Azs),(37376,Azs)],[]⟩),(30,⟨[0,2,3,5],[],[],[(33638,Azu),(40704,Azu)],[]⟩)]
def AfE:Lk:=⟨[],[(14,⟨[(0,.c AO),(2,.c AP),(3,.c AQ),(4,.c x64)],[(0,.box Bq),(Azw,.box BB),(AzB,.Lr 146 false Tq1),(33282,.Lr 146 false Tq1),(Azy,.box [(xo Azs),(xo 33638)]),(33638,.Lr 146 false Tq1),(Azs,.arr 146 false Tq1)]⟩,[(0,⟨[(0,.c AO),(2,.c AP),(3,.c AQ)],[(0,.box Bq),(Azw,.box BB),(AzB,.Lr 146 false Tq1),(33282,.Lr 146 false Tq1),(Azy,.box [(xo Azt),(xo 33638)]),(33638,.Lr 146 false Tq1),(Azt,.arr 146 false Tq1)]⟩)]),(30,⟨[(0,.c AO),(2,.c AP),(3,.c AQ),(5,.c x64)],[(0,.box Bq),(Azw,.box BB),(AzB,.Lr 146 false Tq1),(33282,.Lr 146 false Tq1),(Azy,.box [(xo Azt),(xo Azu)]),(Azt,.arr 146 false Tq1),(Azu,.arr 146 false Tq1)]⟩,[(2,⟨[(0,.c AO),(2,.c AP),(3,.c AQ)],[(0,.box Bq),(Azw,.box BB),(AzB,.Lr 146 false Tq1),(33282,.Lr 146 false Tq1),(Azy,.box [(xo Azt),(xo Azv)]),(Azt,.arr 146 false Tq1),(Azv,.arr 146 false Tq1)]⟩)])]⟩
def AfF:=JO 124 [Sq5] [AkM] (Xt N) [LD N,AnL N] Aee AfE f124 N
def Ahu:A0n:=[(3,⟨[3],[([3],148,Tq2,Azu)],[],[(Azs,Azu)],[]⟩),(14,⟨[0,3,4],[([3],148,Tq2,Azs)],[],[(41216,Azs)],[]⟩),(33,⟨[0,3,4,5],[([3],148,Tq2,Azt)],[(some Az2,3,Az)],[(Azs,Azt)],[]⟩)]
def Ajz:Lk:=⟨[(33,⟨[(0,.c AO),(3,.c (xo Azt)),(4,.i),(5,.c AX)],[(0,.box Bq),(Az2,.box [(xo 36608),x64,xb,(xl Az)]),(36608,.arr 146 false Tq1),(Azt,.arr 148 false Tq2)]⟩)],[(14,⟨[(0,.c AO),(3,.c (xo Azs)),(4,.c x64)],[(0,.box Bq),(Azs,.arr 148 false Tq2)]⟩,[(0,⟨[(3,.c (xo Azu))],[(0,.box Bq),(Azu,.arr 148 false Tq2)]⟩)])]⟩
def Aj0:=JO 125 [Sq5] [.cell false (.sl 148 Tq2)] (Xd N) [LD N,qY N,Aea N] Ahu Ajz f125 N
def uF (N:Nat):Alt:=.of [.cell false .str,.cell false (.int .i64)] [Xy,.cell false (.int .i64)] [.cell false .ptr,.cell false (.int .i64)] (λa=>Alg N a.1 a.2)
def Alh (N:Nat):Spec Tryz.prog 57 (uF N).1/\Spec Tryz.prog 57 (uF N).2.1:=Yf (C:=ctx Tryz.prog (ksp [⟨126,Ug N,Aaj N⟩]) [] [(127,Wn N)]) (L:=⟨[],[]⟩) (fn:=f57) (N:=N) (MB (Oe _) ⟨jF N,trivial⟩) (by kernel_rfl) (by kernel_rfl) (λa=>by kernel_rfl)
def kY:A0n:=[(3,⟨[6],[([6],84,Tq0,Azt)],[],[(Azs,Azt)],[]⟩),(42,⟨[6,26,27,28],[([6],84,Tq0,Azs)],[],[(43776,Azs)],[]⟩)]
def nS:Lk:=⟨[],[(42,⟨[(6,.c (xo Azs)),(26,.i),(27,.i),(28,.c x64)],[(Azs,.arr 84 false Tq0)]⟩,[(0,⟨[(6,.c (xo Azt))],[(Azt,.arr 84 false Tq0)]⟩)])]⟩
def nT:=JO 290 [Sq6] [.cell false (.sl 84 Tq0),Jz] (Yq N) [WL N,Agx N,kX N] kY nS f290 N
def dL:=JB 291 [Apv,Sq6] [Jz] (λa=>Rh N a.1 a.2) [VN N] f291 N
open Go.Proofs Go.Proofs.Tryz
def AaV:=JB 286 [Jw,Jz,Jz] [Jw] (λa=>YE N a.1 a.2.1 a.2.2) [Aen N,Amv N,TP N] f286 N
def Ama:A0n:=[A0l 3 [2,3],A0l 14 [0,2,3,4],A0l 41 [0,2,3,4,13,27]]
def AnN:Lk:=⟨[(41,⟨[(0,.c AO),(2,.c AP),(3,.c AQ),(4,.i),(13,.i),(27,.c xb)],[(0,.box Bq),(Azw,.box Bl),(33285,.Lr 9 false Aq),(33286,.Lr 9 false Aq),(33287,.Lr 88 false (.str Aq)),(33291,.Lr 146 false Tq1),(33293,.Lr 146 false Tq1),(33294,.Lr 146 false Tq1),(33297,.Lr 148 false Tq2),(33298,.Lr 148 false Tq2),(33299,.Lr 118 false Tq3),(Azy,.box Bi)]⟩)],[(14,⟨[(0,.c AO),(2,.c AP),(3,.c AQ),(4,.c x64)],[(0,.box Bq),(Azw,.box Bl),(33285,.Lr 9 false Aq),(33286,.Lr 9 false Aq),(33287,.Lr 88 false (.str Aq)),(33291,.Lr 146 false Tq1),(33293,.Lr 146 false Tq1),(33294,.Lr 146 false Tq1),(33297,.Lr 148 false Tq2),(33298,.Lr 148 false Tq2),(33299,.Lr 118 false Tq3),(Azy,.box Bi)]⟩,[(0,⟨[(2,.c AP),(3,.c AQ)],[(0,.box Bq),(Azw,.box Bl),(33285,.Lr 9 false Aq),(33286,.Lr 9 false Aq),(33287,.Lr 88 false (.str Aq)),(33291,.Lr 146 false Tq1),(33293,.Lr 146 false Tq1),(33294,.Lr 146 false Tq1),(33297,.Lr 148 false Tq2),(33298,.Lr 148 false Tq2),(33299,.Lr 118 false Tq3),(Azy,.box Bi)]⟩)])]⟩
def AnO:=JO 56 [Sq5] [Sq2] (lY N) [AmQ N,LD N,AnR N,AfH N,qY N,AfF N,Aj0 N] Ama AnN f56 N
def Aiu (N n:Nat):Sig:=.of [Apv,Sq6] [.cell false (.int .i64)] (AoJ N n)
def ApY (N:Nat):fA Tryz.prog (Aiu N):=AbT (Jt:=[Apv,Sq6]) (J7:=[.cell false (.int .i64)]) (l:=[(291,λa=>Rh N a.1 a.2),(292,λa=>Vq N a.1 a.2)]) ⟨(dL N).h,(qW N).h,trivial⟩
def rP:A0n:=[A0l 53 [2,5]]
def wF:Lk:=⟨[(53,⟨[(2,.c AP),(5,.c xb)],[(Azw,.box [x64,xs,(xl Az)])]⟩)],[]⟩
def UB:=JO 199 [Ag5,JQ] [Jz] (λa=>Ox N a.1 a.2) [Aey N,Abp N,AmI N,Agk N,AjU N,Agj N,TA N] rP wF f199 N (bb:=[11,15,16,19,23,24,28,32,33,36,40,41,45,49,50,53,57,58])
def gI:A0n:=[A0l 3 [5],A0l 26 [5,17,18,19],A0l 45 [5,7,8,17,18,19]]
def kJ:Lk:=⟨[(45,⟨[(5,.i),(7,.c (.c (.ptr 34560 0))),(8,.c xs),(17,.i),(18,.i),(19,.i)],[(34560,.box [xs,xb,xs])]⟩)],[(26,⟨[(5,.c xs),(17,.i),(18,.i),(19,.c x64)],[]⟩,[(0,⟨[(5,.c xs)],[]⟩)])]⟩
def kK:=JO 192 [.cell false (.sl 118 Tq3)] [Jw,Jz] (PU N) [lF N,bW N,LV N,Vh N,aB N] gI kJ f192 N
def Ago:A0n:=[A0l 3 [3,11],A0l 42 [2,3,8,9,11,13]]
def AhQ:Lk:=⟨[],[(42,⟨[(2,.i),(3,.c AQ),(8,.i),(9,.i),(11,.c xs),(13,.c x64)],[(Azy,.box BD)]⟩,[(0,⟨[(3,.c AQ),(11,.c xs)],[(Azy,.box BD)]⟩)])]⟩
def AhR:=JO 44 [Sq6,Jw,Jw] [Jz] (λa=>YM N a.1 a.2.1 a.2.2) [XC N,AmM N,gG N,dR N,Agn N,wG N] Ago AhQ f44 N
open Go.Proofs Go.Proofs.Tryz
def yY:A0n:=[A0l 3 [],A0l 18 [9,10,11]]
def Aby:Lk:=⟨[],[(18,⟨[(9,.i),(10,.i),(11,.c x64)],[]⟩,[(0,⟨[],[]⟩)])]⟩
def bZ:=JO 97 [.cell false (.sl 146 Tq1)] [Jz] (Rx N) [UB N] yY Aby f97 N
def oK:A0n:=[A0l 3 [],A0l 26 [31,32,33]]
def rQ:Lk:=⟨[],[(26,⟨[(31,.c (xo 40704)),(32,.i),(33,.c x64)],[(40704,.arr 146 false Tq1)]⟩,[(0,⟨[],[]⟩)])]⟩
def XV:=JO 98 [AkM] [Jz] (Nk N) [UB N] oK rQ f98 N
def XW:=JB 258 [Ag5,JQ] [Jw,Jz] (λa=>P5 N a.1 a.2) [UB N,bY N,LV N] f258 N
def Agq:=JB 82 [Jz,.cell false (.sl 118 Tq3)] [Jw,Jz] (λa=>dU N a.1 a.2) [kK N,Vh N] f82 N
def gJ:=JB 13 [Sq3] [Jz] (NH N) [AhR N] f13 N
end
end Go.Proofs.YtacidcemomccpaaGreatDoor.Vm
