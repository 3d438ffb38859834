import Derived.Test.YtacidcemomccpaaGreatDoorA13
import Derived.Test.YtacidcemomccpaaGreatDoorA23
import Derived.ChangeArms
import Derived.SliceStrings
import Derived.Test.YtacidcemomccpaaGreatDoorRows
import Derived.Test.YtacidcemomccpaaGreatDoorChecked
import Derived.Lib.LaidU8
import Derived.Shelf.Vars
import Derived.HandedShaped
import Derived.LaidLaws
set_option linter.all false
namespace Go.Proofs.YtacidcemomccpaaGreatDoor.Pl
open IntKind (i64 u8 u32 u64)
open Go Vm
abbrev ApT:Type:=Bs×Bs×List RnT×Int×Bs×Bs×Bool×Bool×Int×Int×List Bs×List Bs×(List (Bs×Bs))×Int×Int×Int×List GnT×Bool×List GnT×List GnT×Bs×Bs×List PtT×List PtT×(List (Bs×Bool×Bs))×Bs
def Av4 (N:Nat) (sd:Bs):SgT:=(sd,0,0,[TB N sd])
section
variable {N:Nat} (h:Big N) {sd:Bs} (hs:sd.length=32)
include h hs
theorem Ax5:Me N (Arq N sd)=some (Abb N sd,Av4 N sd):=by
 have e:=AkI h hs (xH N sd) (AyJ h hs) rfl;unfold Me N8;try simp -zeta only[Ap]
 dsimp only[Arq,List.headD_cons];rw[ne_nil (by rw[hs];decide),EW,Js];dsimp only;rw[cond_false,List.headD_cons,e,Js];dsimp only[xH,TB];rw[Es,Es,Ju,Ju];rfl
theorem Awy {m:Bs} (hm:m.length+64<N):Qg N (Av4 N sd) m=some (YP N sd m,0,AmZ N sd):=by
 have e1:=zD h hs (TB N sd).1 (idP N sd);have e2:=Aue h hs hm (TB N sd).1 (Awg h hs);unfold Qg VU N8;try simp -zeta only[Ap]
 unfold TB at e1 e2;dsimp only at e1 e2;dsimp only[Av4,TB,Js,List.headD_cons];rw[ne_nil (by rw[hs];decide),EW,cond_false,cond_false,e1,Js];dsimp only;rw[show(i64.wrap (1 - 0))=1 from rfl,Js];dsimp only;rw[show((1:Int)==0)=false from rfl,cond_false,List.headD_cons,e2,Js];rfl
theorem Av9 (m:Bs):(YP N sd m).length=564:=by unfold YP;rw[Dp,wU h (id_eq h hs).2 hs 0 (AdK N sd m)];rfl
end
abbrev ArC (a:ApT) (i q:Bs):ApT:=(a.1,a.2.1,a.2.2.1,0,i,q,a.2.2.2.2.2.2)
def ArG {N:Nat} {a:ApT} {i q sd sg bd out:Bs} {t0 t1 t2:TrT} (hk:Me N (sd,0,0,[t0])=some ((0,i,q),(sd,0,0,[t1]))) (hb:OG N (ArC a i q)=some (bd,0))
 (hi:Qg N (sd,0,0,[t1]) bd=some (sg,0,(sd,0,1,[t2]))) (ho:VC N bd sg=some (out,0)):RQ N a (sd,0,0,[t0])=some (out,0,(sd,0,1,[t2])):=by
 unfold RQ;try simp -zeta only[Ap]
 dsimp only[List.headD_cons];rw[hk,Js];dsimp only[List.headD_cons];refine(congrArg (λo=>Jq o _) hb).trans ?_;rw[Js];dsimp only;rw[show((0:Int) != 0)=false from rfl,cond_false,hi,Js];dsimp only[List.headD_cons];rw[show((0:Int) != 0)=false from rfl,cond_false,ho,Js]
def ArW {N:Nat} {sd out:Bs} {t0 t1:TrT} {c dec:ApT} {d:List Int×Int} {k:Int×Bs×Bs} (h1:SA N 1=some sd) (h2:YQ N sd 0=some (.inl ((sd,0,0,[t0]),0))) (h3:MW N ([],0)=some (c,d))
 (h4:RQ N c (sd,0,0,[t0])=some (out,0,(sd,0,1,[t1]))) (h5:QU N out=some (dec,0)) (h6:Me N (sd,0,1,[t1])=some (k,(sd,0,1,[t1])))
 (k1:dec.2.2.2.1=k.1) (k2:dec.2.2.2.2.1=k.2.1) (k3:dec.2.2.2.2.2.1=k.2.2) (h7:JZ N dec=some 0) (h8:JZ N (([]:Bs),([]:Bs),([]:List RnT),0,([]:Bs),([]:Bs),false,false,0,0,([]:List Bs),([]:List Bs),([]:List (Bs×Bs)),0,0,0,([]:List GnT),false,([]:List GnT),([]:List GnT),([]:Bs),([]:Bs),([]:List PtT),([]:List PtT),([]:List (Bs×Bool×Bs)),([]:Bs))=some 22):Td N=some true:=by
 unfold Td;try simp -zeta only[Ap]
 rw[h1,Js,h2,Aii];dsimp only;simp (decide:=true) only[cond_true,cond_false,Ju,ED,EC,EP,DZ,bne_self_eq_false];rw[show Z8 N []=some ([],0)from rfl,Js,h3,Js];dsimp only[List.headD_cons];rw[h4,Js];dsimp only;rw[h5,Js];dsimp only;simp only[XO,Es,cond_true,Ju,DZ,ED,EO];dsimp only[List.headD_cons];rw[h6,Js];simp only[h7,h8,k1,k2,k3,XO,Es,cond_true,Ju,DZ,ED,EO,GI,Option.isSome_some,Option.getD_some]
def N0:Nat:=2097152
def sZ:Big N0:=⟨by decide,by decide⟩
def apQ:ApT×List Int×Int:=(MW N0 ([],0)).getD default
def Aw4:MW N0 ([],0)=some (apQ.1,apQ.2):=by kernel_rfl
def Y4 (n:Nat) (f:Nat->UInt8):Bs:=(List.range n).map f
def Aht {n:Nat} {l:Bs} (h:l.length=n):Y4 n (λi=>l.getD i 0)=l:=by
 unfold Y4;rw[<- h];apply List.ext_getElem
 .simp
 .intro i h1 h2;simp [Dn,h2]
def bdQ (i q:Nat->UInt8):Bs:=((OG N0 (ArC apQ.1 (Y4 16 i) (Y4 16 q))).getD default).1
def AxF (i q:Nat->UInt8):OG N0 (ArC apQ.1 (Y4 16 i) (Y4 16 q))=some (bdQ i q,0):=by kernel_rfl
def Aw7 (i q:Nat->UInt8):(decide ((bdQ i q).length<=1000))=true:=by kernel_rfl
def Amw (i q f:Nat->UInt8):Bs:=((VC N0 (bdQ i q) (Y4 564 f)).getD default).1
def Axa (i q f:Nat->UInt8):VC N0 (bdQ i q) (Y4 564 f)=some (Amw i q f,0):=by kernel_rfl
def Aai (i q f:Nat->UInt8):ApT:=((QU N0 (Amw i q f)).getD default).1
def AwF (i q f:Nat->UInt8):QU N0 (Amw i q f)=some (Aai i q f,0):=by kernel_rfl
def AoF (i q f:Nat->UInt8):(Aai i q f).2.2.2.1=0:=by kernel_rfl
def AoG (i q f:Nat->UInt8):(Aai i q f).2.2.2.2.1=Y4 16 i:=by kernel_rfl
def AoH (i q f:Nat->UInt8):(Aai i q f).2.2.2.2.2.1=Y4 16 q:=by kernel_rfl
def AwE (i q f:Nat->UInt8):(Aai i q f).2.1=bdQ i q:=by kernel_rfl
def Au9 (i q f:Nat->UInt8):(Aai i q f).2.2.2.2.2.2.2.2.2.2.2.2.2.2.2.2.2.2.2.2.2.2.2.2.2=Y4 564 f:=by kernel_rfl
def zero_eq:JZ N0 (([]:Bs),([]:Bs),([]:List RnT),0,([]:Bs),([]:Bs),false,false,0,0,([]:List Bs),([]:List Bs),([]:List (Bs×Bs)),0,0,0,([]:List GnT),false,([]:List GnT),([]:List GnT),([]:Bs),([]:Bs),([]:List PtT),([]:List PtT),([]:List (Bs×Bool×Bs)),([]:Bs))=some 22:=by kernel_rfl
def sd1:Bs:=(SA N0 1).getD []
def Ayu:SA N0 1=some sd1:=by kernel_rfl
def XZ:sd1.length=32:=by kernel_rfl
def fI:Nat->UInt8:=λi=>(idP N0 sd1).getD i 0
def fQ:Nat->UInt8:=λi=>(dK N0 sd1).getD i 0
def fS:Nat->UInt8:=λi=>(YP N0 sd1 (bdQ fI fQ)).getD i 0
attribute [irreducible] N0 apQ bdQ Amw Aai sd1
def Aqe:Y4 16 fI=idP N0 sd1:=Aht (id_eq sZ XZ).2
def Aqf:Y4 16 fQ=dK N0 sd1:=Aht (Ahr sZ XZ)
def Awb:Y4 564 fS=YP N0 sd1 (bdQ fI fQ):=Aht (Av9 sZ XZ _)
def AvV:(bdQ fI fQ).length+64<N0:=by
 have h1:=DC (Aw7 fI fQ);have h2:N0=2097152:=by unfold N0;rfl
 omega
def AtX:RQ N0 apQ.1 (Arq N0 sd1)=some (Amw fI fQ fS,0,AmZ N0 sd1):=by have e2:=Axa fI fQ fS;have e3:=AxF fI fQ;rw[Awb]at e2;rw[Aqe,Aqf]at e3;exact ArG (Ax5 sZ XZ) e3 (Awy sZ XZ AvV) e2
def ArM:JZ N0 (Aai fI fQ fS)=some 0:=by
 unfold JZ;try simp -zeta only[Ap]
 rw[AoF,AoG,AoH,AwE,Au9,Aqe,Aqf,Awb];exact(congrArg (Jq · _) (Aps sZ XZ AvV)).trans rfl
def Auq:Td N0=some true:=ArW Ayu (Ax4 sZ XZ) Aw4 AtX (AwF _ _ _) (Awx sZ XZ) (AoF _ _ _) ((AoG _ _ _).trans Aqe) ((AoH _ _ _).trans Aqf) ArM zero_eq
def AuY (l:List Bs):Prop:=l.length<=1048576/\ ∀ s∈l,LG s
def Azi (l:List Ex):Prop:=l.length<=1000000/\ ∀ x∈l,Uc x
def AxV (l:List Pt):Prop:=l.length<=1048576/\ ∀ p∈l,Qw p
def Ax2:Info->Prop
 | (_,_,_,_,G,H,I,_,_,_,O,_,Q,R,_,_,U,V,W)=>AuY G/\AuY H/\(∀ s∈I,sD s)/\Lh O/\Lh Q/\Lh R/\AxV U/\AxV V/\Azi W
def Ax2.small {x:Info} (h:Ax2 x):PX x:=by obtain⟨B,C,D,F,G,H,I,J,K,M,O,P,Q,R,S,T,U,V,W⟩:=x;obtain⟨h1,h2,h3,h4,h5,h6,h7,h8,h9⟩:=h;exact⟨h1,h2,h3,h4,h5,h6,h7.2,h8.2,by have:=h9.1;dsimp only;omega,h9.2⟩
section
variable (N:Nat) (hN:1048578<N) {L:List Int} (hL:L.length<=9223372036854775807)
end
def iO (a:Att):Bool:=decide (200<a.1.length)||decide (200<a.2.2.length)
def bV (r:List Att):Bool:=decide (8<r.length)||r.any iO
def P6 (n:List (List Att)):Bool:=bif decide (12<n.length)then false else bif n.any bV then false else true
def iM (N:Nat) (n:List (List Att)) (hN:1048578<N):Ov N n=some (P6 n):=by
 unfold Ov;try simp only[clR]
 unfold P6;rw[show decide (((n.length:Nat):Int)>12)=decide (12<n.length)from Nb _ 12];by_cases h12:12<n.length
 .rw[Dk h12];rfl
 rw[Dq h12,cond_false,cond_false,<- JX];refine QR (mk:=λi=>(i:Int)) n [] bV (some false) (some true) ?_ ?_ N
 .intro i hi k;dsimp only;rw[Int.toNat_natCast];generalize n.getD i []=r;rw[Vx,cond_true,Sv,Ju,Ju,show decide (((r.length:Nat):Int)>8)=decide (8<r.length)from Nb _ 8];unfold bV;by_cases h8:8<r.length
  .rw[Dk h8];rfl
  rw[Dq h8,cond_false,EL];refine(QR (mk:=λi=>(i:Int)) r ([],0,[]) iO (some false) (k ((i+1:Nat):Int)) ?_ ?_ N)
  .intro j hj k;dsimp only;rw[Int.toNat_natCast];generalize r.getD j ([],0,[])=a;rw[show decide (((a.1.length:Nat):Int)>200)=decide (200<a.1.length)from Nb _ 200,show decide (((a.2.2.length:Nat):Int)>200)=decide (200<a.2.2.length)from Nb _ 200];have ha:(decide (200<a.1.length)||decide (200<a.2.2.length))=iO a:=rfl;rw[ha,Vx,cond_true,Sv,Ju,Ju,w64];rfl
  .intro k;rw[Vw,cond_false,w64];rfl
 .intro k;rw[Vw,cond_false]
def AiP {n:List (List Att)} (h:P6 n=true):n.length<=12/\(∀ r∈n,r.length<=8)/\MG n:=by
 unfold P6 at h;cases h1:decide (12<n.length)with
 | true=>rw[h1]at h;cases h
 | false =>
  cases h2:n.any bV with
  | true=>rw[h1,h2]at h;cases h
  | false =>
   have h1:=E8 h1;have h2:=EZ.1 h2;refine⟨by omega,λr hr=> ?_,λr hr e he=> ?_⟩
   .have:=h2 r hr;unfold bV at this;rw[Ef,D6]at this;omega
   .have h3:=h2 r hr;unfold bV at h3;rw[Ef]at h3;have h4: ¬ iO e=true:=λhb=>h3 (Or.inr (FZ.2 ⟨e,he,hb⟩));unfold iO at h4;rw[Ef,D6,D6]at h4;exact⟨by omega,by omega⟩
def Afs (g:Gn):Bool:=decide (300<g.2.1.length)|| !P6 g.2.2
def PR (l:List Gn):Bool:=bif decide (20<l.length)then false else bif l.any Afs then false else true
def xK (N:Nat) (l:List Gn) (hN:1048578<N):MK N l=some (PR l):=by
 unfold MK;try simp only[clR]
 unfold PR;rw[show decide (((l.length:Nat):Int)>20)=decide (20<l.length)from Nb _ 20];by_cases h12:20<l.length
 .rw[Dk h12];rfl
 rw[Dq h12,cond_false,cond_false,<- JX];refine QR (mk:=λi=>(i:Int)) l (0,[],[]) Afs (some false) (some true) ?_ ?_ N
 .intro i hi k;dsimp only;rw[Int.toNat_natCast];generalize l.getD i (0,[],[])=g;rw[iM N _ hN,Vx,cond_true,Sv,Ju,Ju,show decide (((g.2.1.length:Nat):Int)>300)=decide (300<g.2.1.length)from Nb _ 300];simp only[Option.isSome_some,DZ,Ju,Option.getD_some];have ha:(decide (300<g.2.1.length)|| !P6 g.2.2)=Afs g:=rfl;rw[ha,w64];rfl
 .intro k;rw[Vw,cond_false]
def gK {l:List Gn} (h:PR l=true):l.length<=20/\(∀ g∈l,g.2.1.length<=300/\P6 g.2.2=true)/\Lh l:=by
 unfold PR at h;cases h1:decide (20<l.length)with
 | true=>rw[h1]at h;cases h
 | false =>
  cases h2:l.any Afs with
  | true=>rw[h1,h2]at h;cases h
  | false =>
   have h1:=E8 h1;have h2:=EZ.1 h2
   have key: ∀ g∈l,g.2.1.length<=300/\P6 g.2.2=true:=by
    intro g hg;have:=h2 g hg;unfold Afs at this;rw[Ef,D6]at this;refine⟨by omega,?_⟩;cases hq:P6 g.2.2 with
    | true=>rfl
    | false=>exact absurd (Or.inr (by rw[hq];rfl)) this
   exact⟨by omega,key,λg hg=>⟨by have:=(key g hg).1;omega,(AiP (key g hg).2).2.2⟩⟩
def wR (l:List Pt):Bool:=bif decide (6<l.length)then false else bif l.any (λp=> !PR p.1|| !P6 p.2.2.2)then false else true
def pG (N:Nat) (l:List Pt) (hN:1048578<N):PK N l=some (wR l):=by
 unfold PK;try simp only[clR]
 unfold wR;rw[show decide (((l.length:Nat):Int)>6)=decide (6<l.length)from Nb _ 6];by_cases h12:6<l.length
 .rw[Dk h12];rfl
 rw[Dq h12,cond_false,cond_false,<- JX];refine QR (mk:=λi=>(i:Int)) l ([],0,false,[]) (λp=> !PR p.1|| !P6 p.2.2.2) (some false) (some true) ?_ ?_ N
 .intro i hi k;dsimp only;rw[Int.toNat_natCast];generalize l.getD i ([],0,false,[])=g;rw[xK N _ hN,Js,iM N _ hN,Vx,cond_true,Sv,Ju,Ju];simp only[Option.isSome_some,DZ,Ju,Option.getD_some];rw[w64];rfl
 .intro k;rw[Vw,cond_false]
def Av8 {l:List Pt} (h:wR l=true):l.length<=6/\ ∀ p∈l,PR p.1=true/\P6 p.2.2.2=true:=by
 unfold wR at h;cases h1:decide (6<l.length)with
 | true=>rw[h1]at h;cases h
 | false =>
  cases h2:l.any (λp=> !PR p.1|| !P6 p.2.2.2)with
  | true=>rw[h1,h2]at h;cases h
  | false =>have h1:=E8 h1;have h2:=EZ.1 h2;refine⟨by omega,λp hp=> ?_⟩;have:=h2 p hp;cases hq:PR p.1<;>cases hq2:P6 p.2.2.2<;>rw[hq,hq2]at this<;>first | exact⟨rfl,rfl⟩ | exact absurd rfl this
def Afj (x:Ex):Bool:=decide (200<x.1.length)||decide (300<x.2.2.length)
def Acn (l:List Ex):Bool:=bif decide (30<l.length)then false else bif l.any Afj then false else true
def zG (N:Nat) (l:List Ex) (hN:1048578<N):OL N l=some (Acn l):=by
 unfold OL;try simp only[clR]
 unfold Acn;rw[show decide (((l.length:Nat):Int)>30)=decide (30<l.length)from Nb _ 30];by_cases h12:30<l.length
 .rw[Dk h12];rfl
 rw[Dq h12,cond_false,cond_false,<- JX];refine QR (mk:=λi=>(i:Int)) l ([],false,[]) Afj (some false) (some true) ?_ ?_ N
 .intro i hi k;dsimp only;rw[Int.toNat_natCast];generalize l.getD i ([],false,[])=a;rw[show decide (((a.1.length:Nat):Int)>200)=decide (200<a.1.length)from Nb _ 200,show decide (((a.2.2.length:Nat):Int)>300)=decide (300<a.2.2.length)from Nb _ 300];have ha:(decide (200<a.1.length)||decide (300<a.2.2.length))=Afj a:=rfl;rw[ha,Vx,cond_true,Sv,Ju,Ju,w64];rfl
 .intro k;rw[Vw,cond_false]
def Av5 {l:List Ex} (h:Acn l=true):l.length<=30/\ ∀ x∈l,x.1.length<=200/\x.2.2.length<=300:=by
 unfold Acn at h;cases h1:decide (30<l.length)with
 | true=>rw[h1]at h;cases h
 | false =>
  cases h2:l.any Afj with
  | true=>rw[h1,h2]at h;cases h
  | false =>have h1:=E8 h1;have h2:=EZ.1 h2;refine⟨by omega,λp hp=> ?_⟩;have:=h2 p hp;unfold Afj at this;rw[Ef,D6,D6]at this;omega
def aI (l:List Bs) (n m:Nat):Bool:=bif decide (n<l.length)then false else bif l.any (λs=>decide (m<s.length))then false else true
def Ax1 (N:Nat) (l:List Bs) (n m:Nat) (hN:1048578<N) (hn:n<=1000):X8 N l (n:Int) (m:Int)=some (aI l n m):=by
 unfold X8;try simp only[clR]
 unfold aI;rw[show decide (((l.length:Nat):Int)>(n:Int))=decide (n<l.length)from Nb _ n];by_cases h12:n<l.length
 .rw[Dk h12];rfl
 rw[Dq h12,cond_false,cond_false,<- JX];refine QR (mk:=λi=>(i:Int)) l [] (λs=>decide (m<s.length)) (some false) (some true) ?_ ?_ N
 .intro i hi k;dsimp only;rw[Int.toNat_natCast];generalize l.getD i []=a;rw[show decide (((a.length:Nat):Int)>(m:Int))=decide (m<a.length)from Nb _ m];rw[Vx,cond_true,Sv,Ju,Ju,w64];rfl
 .intro k;rw[Vw,cond_false]
def Av6 {l:List Bs} {n m:Nat} (h:aI l n m=true):l.length<=n/\ ∀ s∈l,s.length<=m:=by
 unfold aI at h;cases h1:decide (n<l.length)with
 | true=>rw[h1]at h;cases h
 | false =>
  cases h2:l.any (λs=>decide (m<s.length))with
  | true=>rw[h1,h2]at h;cases h
  | false =>have h1:=E8 h1;have h2:=EZ.1 h2;refine⟨by omega,λp hp=> ?_⟩;have:=h2 p hp;rw[D6]at this;omega
def AaE (m:Bs×Bs):Bool:=decide (200<m.1.length)||decide (200<m.2.length)
def rZ:Info->Bool
 | (_,_,_,_,G,H,I,_,_,_,M,_,P,Q,R,S,T,U,V) =>
  bif !aI G 12 200|| !aI H 12 200||decide (12<I.length)|| !PR M|| !PR P|| !PR Q||decide (100<R.length)||decide (100<S.length)then false
  else bif I.any AaE then false else wR T&&wR U&&Acn V
def AkJ (N:Nat) (x:Info) (hN:1048578<N):TU N x=some (rZ x):=by
 obtain⟨B,C,D,F,G,H,I,J,K,L,M,O,P,Q,R,S,T,U,V⟩:=x;unfold TU;try simp only[clR]
 unfold rZ;have f1: ∀ l:List Bs,X8 N l 12 200=some (aI l 12 200):=λl=>Ax1 N l 12 200 hN (by omega);simp only[f1,Js,xK N _ hN,Option.isSome_some,Option.getD_some,DZ,Ju];rw[show decide (((I.length:Nat):Int)>12)=decide (12<I.length)from Nb _ 12,show decide (((R.length:Nat):Int)>100)=decide (100<R.length)from Nb _ 100,show decide (((S.length:Nat):Int)>100)=decide (100<S.length)from Nb _ 100];rw[<- JX];refine KN λh=> ?_;simp only[Ff,Eo]at h;have hma:=h.1.1.1.1.1.2;rw[<- JX];refine QR (mk:=λi=>((i:Int),B,C,D,F,G,H,I,J,K,L,M,O,P,Q,R,S,T,U,V)) I ([],[]) AaE (some false) _ ?_ ?_ N
 .intro i hi k;dsimp only[U20];rw[Int.toNat_natCast];generalize I.getD i ([],[])=m;rw[show decide (((m.1.length:Nat):Int)>200)=decide (200<m.1.length)from Nb _ 200,show decide (((m.2.length:Nat):Int)>200)=decide (200<m.2.length)from Nb _ 200];have hm:(decide (200<m.1.length)||decide (200<m.2.length))=AaE m:=rfl;rw[hm,Vx,cond_true,Sv,Ju,Ju,w64];rfl
 .intro k;dsimp only[U20];rw[Vw,cond_false];dsimp only[U19];rw[pG N _ hN,Js,pG N _ hN,zG N _ hN];rfl
def Aa1 (x:Int):Prop:= -9223372036854775808<=x/\x<=9223372036854775807
def Ads {l:List Pt} (h:wR l=true) (hr: ∀ p∈l,Aa1 p.2.1):l.length<=6/\ ∀ p∈l,Qw p:=by obtain⟨h1,h2⟩:=Av8 h;exact⟨h1,λp hp=>⟨(gK (h2 p hp).1).2.2,(AiP (h2 p hp).2).2.2,hr p hp⟩⟩
def Aos {l:List Ex} (h:Acn l=true):l.length<=30/\ ∀ x∈l,Uc x:=by obtain⟨h1,h2⟩:=Av5 h;exact⟨h1,λx hx=>⟨by have:=(h2 x hx).1;unfold LG;omega,by have:=(h2 x hx).2;unfold LG;omega⟩⟩
def Adr {l:List Bs} (h:aI l 12 200=true):AuY l:=by obtain⟨h1,h2⟩:=Av6 h;exact⟨by omega,λs hs=>by have:=h2 s hs;unfold LG;omega⟩
def At6 {x:Info} (h:rZ x=true) (h1: ∀ p∈x.2.2.2.2.2.2.2.2.2.2.2.2.2.2.2.2.1,Aa1 p.2.1) (h2: ∀ p∈x.2.2.2.2.2.2.2.2.2.2.2.2.2.2.2.2.2.1,Aa1 p.2.1) :
 PX x/\(x.2.2.2.2.2.2.2.2.2.2.2.2.2.2.2.2.1.length<=6/\ ∀ p∈x.2.2.2.2.2.2.2.2.2.2.2.2.2.2.2.2.1,Qw p)/\(x.2.2.2.2.2.2.2.2.2.2.2.2.2.2.2.2.2.2.length<=30/\ ∀ p∈x.2.2.2.2.2.2.2.2.2.2.2.2.2.2.2.2.2.2,Uc p):=by
 obtain⟨B,C,D,F,G,H,I,J,K,L,M,O,P,Q,R,S,T,U,V⟩:=x;unfold rZ at h;dsimp only at h;cases g1:(!aI G 12 200|| !aI H 12 200||decide (12<I.length)|| !PR M|| !PR P|| !PR Q||decide (100<R.length)||decide (100<S.length))with
 | true=>rw[g1]at h;cases h
 | false =>
  rw[g1,cond_false]at h;simp only[Ff,Ic]at g1;obtain⟨⟨⟨⟨⟨⟨⟨q1,q2⟩,q3⟩,q4⟩,q5⟩,q6⟩,_⟩,_⟩:=g1;cases g2:I.any AaE with
  | true=>rw[g2]at h;cases h
  | false =>rw[g2,cond_false,Dw,Dw]at h;obtain⟨⟨p1,p2⟩,p3⟩:=h;have z1:=Ads p1 h1;have z2:=Ads p2 h2;have z3:=Aos p3;refine⟨⟨Adr q1,Adr q2,?_,(gK q4).2.2,(gK q5).2.2,(gK q6).2.2,z1.2,z2.2,by have:=z3.1;exact⟨by dsimp only;omega,z3.2⟩⟩,z1,z3⟩;intro m hm;have:=EZ.1 g2 m hm;unfold AaE at this;rw[Ef,D6,D6]at this;exact⟨by unfold LG;omega,by unfold LG;omega⟩
def rT (n:List (List Att)):Prop:= ∀ r∈n,r.length<=2/\ ∀ e∈r,Ag8 e
def nmT (n:List (List Att)):Prop:=n.length<=3/\rT n
def AqS (n:List (List Att)):Prop:=n.length<=100/\ ∀ r∈n,r.length<=100/\ ∀ e∈r,e.1.length<=1000/\e.2.2.length<=1000
def Aya {n:List (List Att)} (h:nmT n):AqS n:=⟨by have:=h.1;omega,λr hr=>⟨by have:=(h.2 r hr).1;omega,λe he=>⟨by have:=((h.2 r hr).2 e he).1;omega,by have:=((h.2 r hr).2 e he).2;omega⟩⟩⟩
def AqT {n:List (List Att)} (h:AqS n):MG n:=λr hr e he=>⟨by have:=((h.2 r hr).2 e he).1;omega,by have:=((h.2 r hr).2 e he).2;omega⟩
section
variable (N:Nat) (hN:1048578<N) {L:List Int} (hL:L.length<=9223372036854775807)
include hL
include hN in
theorem AqJ {d:List Int×Int} (hd:KJ L d):Ends (λr=>nmT r.1/\KJ L r.2) (Ui N d):=by
 unfold Ui;try simp only[clR]
 refine JF (nx N hL hd 4 (by omega)) ?_;rintro ⟨r,d1,d2⟩ ⟨h0,h1,h2⟩;dsimp only at h0 h1 h2 ⊢;refine Ou (λx=>0<=x.1/\x.1<4/\KJ L (x.2.1,x.2.2.1)/\((x.2.2.2.length:Int)+x.1<=3)/\rT x.2.2.2) (λx=>x.1.toNat) ?_ N _ ⟨h0,h1,h2,by simp;omega,λr hr=>by cases hr⟩ (by dsimp only;omega);rintro ⟨t,a,b,acc⟩ ⟨g0,g1,g2,g3,g4⟩ k hk;dsimp only[U4]at g0 g1 g2 g3 g4 ⊢;refine Kt (λht=> ?_) (λ_=> ?_)
 .have ht:=DC ht;refine JF (nx N hL g2 5 (by omega)) ?_;rintro ⟨r,e1,e2⟩ ⟨f0,f1,f2⟩;dsimp only at f0 f1 f2 ⊢
  have hw:i64.wrap (1+i64.wrap (r.tdiv 4))<=2/\0<=i64.wrap (1+i64.wrap (r.tdiv 4)):=by
   have:r=0\/r=1\/r=2\/r=3\/r=4:=by omega
   rcases this with rfl | rfl | rfl | rfl | rfl<;>decide
  refine Ou (λx=>0<=x.1/\x.1<=2/\KJ L (x.2.1,x.2.2.1)/\((x.2.2.2.1.length:Int)+x.1<=2)/\(∀ e∈x.2.2.2.1,Ag8 e)/\x.2.2.2.2=acc) (λx=>x.1.toNat) ?_ N _ ⟨hw.2,hw.1,f2,by simp;omega,(λr hr=>by cases hr),rfl⟩ (by dsimp only;omega);rintro ⟨t',a',b',acc',out⟩ ⟨p0,p1,p2,p3,p4,p5⟩ k' hk';dsimp only[U5]at p0 p1 p2 p3 p4 p5 ⊢;subst p5;refine Kt (λht'=> ?_) (λ_=> ?_)
  .have ht':=DC ht';refine JF (pM N hL p2) ?_;rintro ⟨r,q1,q2⟩ ⟨z0,z1⟩;dsimp only at z0 z1 ⊢
   have taut:(decide ((0:Int)<(acc'.length:Int))||((acc'.length:Nat):Int)==0)=true:=by
    cases acc' with
    | nil=>rfl
    | cons x y=>rw[Dk (by rw[List.length_cons];omega)];rfl
   have mW:(decide (0<acc'.length)||((acc'.length:Nat):Int)==0)=true:=by
    cases acc' with
    | nil=>rfl
    | cons x y=>rw[Dk (by rw[List.length_cons];omega)];rfl
   have hsm:Ag8 r:=z0;refine JK (by first | exact taut | exact mW) (JK (by first | exact taut | exact mW) (JK (by first | exact taut | exact mW) ?_));refine Kt (λ_=> ?_) (λ_=> ?_)
   .refine JK (Dk) (hk' _ ⟨?_,?_,z1,?_,?_,rfl⟩ ?_)
    .dsimp only;rw[w64];omega
    .dsimp only;rw[w64];omega
    .dsimp only;rw[w64,Dp];simp;omega
    .intro e he;rcases DN.1 he with he | he
     .exact p4 e he
     .rw[Ec.1 he];exact hsm
    .dsimp only;rw[w64];omega
   .refine hk' _ ⟨?_,?_,z1,?_,p4,rfl⟩ ?_
    .dsimp only;rw[w64];omega
    .dsimp only;rw[w64];omega
    .dsimp only;rw[w64];omega
    .dsimp only;rw[w64];omega
  .dsimp only[U4];refine JK (Dk) (hk _ ⟨?_,?_,p2,?_,?_⟩ ?_)
   .dsimp only;rw[w64];omega
   .dsimp only;rw[w64];omega
   .dsimp only;rw[w64,Dp];simp;omega
   .intro e he;rcases DN.1 he with he | he
    .exact g4 e he
    .rw[Ec.1 he];exact⟨by omega,p4⟩
   .dsimp only;rw[w64];omega
 .dsimp only[U3];exact KU ⟨⟨by dsimp only;omega,g4⟩,g2⟩
end
def Av7 {n:List (List Att)} (h:P6 n=true):AqS n:=by
 unfold P6 at h;cases h1:decide (12<n.length)with
 | true=>rw[h1]at h;cases h
 | false =>
  cases h2:n.any bV with
  | true=>rw[h1,h2]at h;cases h
  | false =>have h1:=E8 h1;refine⟨by omega,λr hr=> ?_⟩;have h3:=EZ.1 h2 r hr;unfold bV at h3;rw[Ef,D6]at h3;refine⟨by omega,λe he=> ?_⟩;have h4: ¬ iO e=true:=λhb=>h3 (Or.inr (FZ.2 ⟨e,he,hb⟩));unfold iO at h4;rw[Ef,D6,D6]at h4;omega
structure SmX (c:Apl):Prop where
 su:AqS c.2.2.1
 x:PX (Pm c)
 b:c.2.1.length<=300
def SmX.s {c:Apl} (h:SmX c):AkK c:=⟨AqT h.su,h.x⟩
section
variable (N:Nat) (hN:1048700<N) {L:List Int} (hL:L.length<=9223372036854775807)
include hN hL
theorem ArT {d:List Int×Int} (hd:KJ L d):Ends (λr=>SmX r.1/\KJ L r.2) (MW N d):=by
 unfold MW;try simp -zeta only[Ap]
 refine JF (AqJ N (by omega) hL hd) ?_;rintro ⟨su,d1⟩ ⟨hsu,hd⟩;dsimp only at hsu hd ⊢;refine JF (AuV N hN hL hd) ?_;rintro ⟨⟨kh,ki,kr⟩,d1⟩ ⟨⟨hkh,hki,hkr⟩,hd⟩;dsimp only at hkh hki hkr hd ⊢;refine JF (AsK N (by omega) hL hd) ?_;rintro ⟨⟨hb,C,D,F,G,H,J,K,M,O,P,Q,R,S,U,V,W,X,Y⟩,a,b⟩ ⟨hx,hd⟩;have hx:=hx.small;exact KU ⟨⟨Aya hsu,hx,Eb _⟩,hd⟩
theorem Ajf {d:List Int×Int} (hd:KJ L d) {raw:Apl} (hr:SmX raw):Ends (λr=>SmX r.1) (Xo N d raw):=by
 unfold Xo;try simp -zeta only[Ap]
 refine JF (ArT N hN hL hd) ?_;rintro ⟨c,d1⟩ ⟨Q,hd⟩;dsimp only at Q hd ⊢;refine JF (nx N hL hd 6 (by omega)) ?_;rintro ⟨k,d1⟩ ⟨k0,k1,hd⟩;dsimp only at k0 k1 hd ⊢;refine Kt (λ_=>KU ⟨hr.su,Q.x,Q.b⟩) (λ_=> ?_);refine Kt (λ_=>KU ⟨Q.su,Q.x,Q.b⟩) (λ_=> ?_);refine Kt (λ_=>KU ⟨Q.su,hr.x,Q.b⟩) (λ_=> ?_);exact KU Q
end
section
variable (N:Nat) (hN:1048700<N)
include hN
theorem At7 (c:Apl): ∃ b,ZX N c=some b/\(b=true->P6 c.2.2.1=true/\rZ (Pm c)=true/\c.2.1.length<=300):=by
 obtain⟨raw,bd,su,kh,ki,kr,hb,C,D,F,G,H,J,K,M,O,P,Q,R,S,U,V,W,X,Y,sg⟩:=c;unfold ZX Pm;try simp -zeta only[Ap]
 try dsimp only
 rw[iM N su (by omega),AkJ N _ (by omega),Js];simp only[XO,Option.isSome_some,Option.getD_some,DZ,Hr,Ju];generalize P6 su=b;generalize rZ _=x;cases b with
 | false=>exact⟨false,by rfl,λh=>by cases h⟩
 | true =>
  cases x with
  | false=>exact⟨false,by rfl,λh=>by cases h⟩
  | true =>
   simp only[cond_true,Hr,Ju];have h4:decide ((bd.length:Int)<=300)=true->bd.length<=300:=λh=>by have:=DC h;omega
   generalize decide ((ki.length:Int)<=60)=d1;generalize decide ((kr.length:Int)<=60)=d2;generalize decide ((raw.length:Int)<=300)=d3;generalize decide ((bd.length:Int)<=300)=d4 at h4 ⊢;generalize decide ((sg.length:Int)<=700)=d5;refine⟨d1&&d2&&d3&&d4&&d5,?_,λh=>⟨trivial,trivial,?_⟩⟩
   .cases d1<;>cases d2<;>cases d3<;>cases d4<;>cases d5<;>rfl
   .simp only[Dw]at h;exact h4 h.1.2
theorem Ay9 (hb:Big N) (c:Apl) (h:SmX c): ∃ e,JZ N c=some e/\NH N c=some e:=by
 obtain⟨e,h1,h2⟩:=Anp hb c.2.2.2.1 c.2.2.2.2.1 c.2.2.2.2.2.1 c.2.1 c.2.2.2.2.2.2.2.2.2.2.2.2.2.2.2.2.2.2.2.2.2.2.2.2.2 (by have:=h.b;omega);unfold JZ NH;try simp -zeta only[Ap]
 refine⟨bif e != 0 then 22 else 0,(congrArg (Jq · _) h1).trans ?_,(congrArg (Jq · _) h2).trans ?_⟩
 .rw[Js];cases e != 0<;>rfl
 .rw[Js];cases e != 0<;>rfl
theorem AwA (hb:Big N) (haw:Td N=some true) (p0:Apl) (p1:List Int) (hL:p1.length<=9223372036854775807) (h1: ∀ p∈(Pm p0).2.2.2.2.2.2.2.2.2.2.2.2.2.2.2.2.1,Aa1 p.2.1) (h2: ∀ p∈(Pm p0).2.2.2.2.2.2.2.2.2.2.2.2.2.2.2.2.2.1,Aa1 p.2.1):Qd N p0 p1=some true:=by
 refine(λh=>by obtain⟨w,h1,rfl⟩:=h;exact h1:Ends (λr=>r=true) (Qd N p0 p1)->_) ?_;unfold Qd;try simp -zeta only[Ap]
 obtain⟨b,hb',hsh⟩:=At7 N hN p0;rw[hb',Js];cases b with
 | false=>rw[show(!false)=true from rfl,cond_true,haw,Js];exact KU rfl
 | true =>
  obtain⟨s2,s3,s4⟩:=hsh rfl;have hr:SmX p0:=⟨Av7 s2,(At6 s3 h1 h2).1,s4⟩
  rw[show(!true)=false from rfl,cond_false,show Z8 N p1=some (p1,0)from rfl,Js];refine JF (Ajf N hN hL (d:=(p1,0)) ⟨0,rfl,Eb _⟩ hr) ?_;rintro ⟨c,d⟩ Q;dsimp only at Q ⊢
  have hall: ∀ y∈ [p0,c],SmX y:=by
   intro y hy;simp only[D7,Fe,GN]at hy;rcases hy with rfl | rfl
   .exact hr
   .exact Q
  have hlen: [p0,c].length=2:=rfl;clear hr Q;generalize [p0,c]=A at hall hlen ⊢;refine Ou (fun(x:Int×List Apl)=>0<=x.1/\x.1<=2/\x.2=A) (λx=>(2 - x.1).toNat) ?_ N _ ⟨by dsimp only;omega,by dsimp only;omega,rfl⟩ (by dsimp only;omega);rintro ⟨t,B⟩ ⟨g0,g1,rfl⟩ k hk;dsimp only at g0 g1 hk hall hlen;dsimp only[U2];refine Kt (λht=> ?_) (λ_=>by rw[haw,Js];exact KU rfl);have ht:t<2:=DC ht;have hti:t.toNat<B.length:=by rw[hlen];omega
  refine JK (Dk g0) (JK (Dk (by rw[hlen];omega)) (JK (Dk hti) ?_));have hy:=hall _ (getD_mem (([]:Bs),([]:Bs),([]:List (List Att)),0,([]:Bs),([]:Bs),false,false,0,0,([]:List Bs),([]:List Bs),([]:List (Bs×Bs)),0,0,0,([]:List Gn),false,([]:List Gn),([]:List Gn),([]:Bs),([]:Bs),([]:List Pt),([]:List Pt),([]:List Ex),([]:Bs)) hti);generalize B.getD t.toNat (([]:Bs),([]:Bs),([]:List (List Att)),0,([]:Bs),([]:Bs),false,false,0,0,([]:List Bs),([]:List Bs),([]:List (Bs×Bs)),0,0,0,([]:List Gn),false,([]:List Gn),([]:List Gn),([]:Bs),([]:Bs),([]:List Pt),([]:List Pt),([]:List Ex),([]:Bs))=y at hy ⊢;have hN':1048578<N:=by omega
  obtain⟨e,v1,v2⟩:=Ay9 N hN hb y hy;rw[Aoo N hN' y hy.s,Js,AiW N hN' y hy.s,Js,Ab4 N hN' y hy.s,Js,yZ N hN' y hy.s,Js,v1,v2,w64 (x:=t+1)];generalize AbM _ _ _=T;generalize sS y=I;simp only[XO,bne_self_eq_false,Es,ED,EC,EP,DZ,cond_true,cond_false,Ju,IJ,Option.isSome_some,Option.getD_some];exact hk _ ⟨by dsimp only;omega,by dsimp only;omega,rfl⟩ (by dsimp only;omega)
end
def An1 (p0:Apl) (p1:List Int) (hL:p1.length<=9223372036854775807) (h1: ∀ p∈(Pm p0).2.2.2.2.2.2.2.2.2.2.2.2.2.2.2.2.1,Aa1 p.2.1) (h2: ∀ p∈(Pm p0).2.2.2.2.2.2.2.2.2.2.2.2.2.2.2.2.2.1,Aa1 p.2.1):Qd 2097152 p0 p1=some true:=by have h:=Auq;have hb:=sZ;unfold N0 at h hb;exact AwA 2097152 (by omega) hb h p0 p1 hL h1 h2
end Go.Proofs.YtacidcemomccpaaGreatDoor.Pl
namespace Go.Proofs.YtacidcemomccpaaGreatDoor.Vm
open Go.ChangeShapes Go.WideShapes
def nobody:Own:=λ_ _=>none
def Avh:A->Prop
 | .int k n=>k.min<=n/\n<=k.max
 | .str s=>s.length<=9223372036854775807
 | _=>True
def okN:Nat->A->Prop
 | 0,_=>False
 | n+1,.sl l=>l.xs.length<=9223372036854775807/\ ∀ c∈l.es,∀ a∈c,okN n a
 | _+1,a=>Avh a
structure Opened (n:Nat) (w:World) (ks:List CK) (cs:List Value) (aa:List A):Prop where
 lc:cs.length=ks.length
 la:aa.length=ks.length
 rel: ∀ j,j<ks.length->J5 nobody w (cs.getD j undef) (aa.getD j .undef)
 made:((tyl ks).mk aa).1=true
 ok: ∀ a∈aa,okN n a
def Ayd: ∀(n:Nat) (a:A),okN n a->okN (n+1) a:=by
 intro n
 induction n with
 | zero=>intro a h;exact h.elim
 | succ n ih =>intro a h;cases a<;>first | exact h | exact⟨h.1,λc hc z hz=>ih z (h.2 c hc z hz)⟩
def Opened.up {n:Nat} {w:World} {ks:List CK} {cs:List Value} {aa:List A} (h:Opened n w ks cs aa):Opened (n+1) w ks cs aa:=⟨h.lc,h.la,h.rel,h.made,λa ha=>Ayd n a (h.ok a ha)⟩
def Atd: ∀(a:List CK) {b:List CK} {x y:List A},((tyl a).mk x).1=true->((tyl b).mk y).1=true->((tyl (a++b)).mk (x++y)).1=true:=by
 intro a
 induction a with
 | nil =>
  intro b x y hx hy;cases x with
  | nil=>exact hy
  | cons _ _=>cases hx
 | cons k a ih =>
  intro b x y hx hy;cases k with
  | bool =>
   cases x with
   | nil=>cases hx
   | cons c x=>cases c<;>first | exact ih (x:=x) hx hy | cases hx
  | int k =>
   cases x with
   | nil=>cases hx
   | cons c x =>
    cases c<;>first
     | (simp only[tyl,Ty.mk,Dw]at hx
        simp only[List.cons_append,tyl,Ty.mk,Dw];exact⟨hx.1,ih hx.2 hy⟩)
     | cases hx
  | str =>
   cases x with
   | nil=>cases hx
   | cons c x=>cases c<;>first | exact ih (x:=x) hx hy | cases hx
  | sl e t =>
   cases x with
   | nil=>cases hx
   | cons c x =>
    cases c with
    | sl l =>
     simp only[tyl,Ty.mk]at hx;simp only[List.cons_append,tyl,Ty.mk];cases hc:l.cast t with
     | none=>rw[hc]at hx;cases hx
     | some xs=>rw[hc]at hx;exact ih (x:=x) hx hy
    | _=>cases hx
  | sln e t =>
   cases x with
   | nil=>cases hx
   | cons c x =>
    cases c with
    | sl l =>
     simp only[tyl,Ty.mk]at hx;simp only[List.cons_append,tyl,Ty.mk];cases hc:l.cast t with
     | none=>rw[hc]at hx;cases hx
     | some xs=>rw[hc]at hx;exact ih (x:=x) hx hy
    | _=>cases hx
  | ptr =>
   cases x with
   | nil=>cases hx
   | cons c x=>cases c<;>first | exact ih (x:=x) hx hy | cases hx
  | fn =>
   cases x with
   | nil=>cases hx
   | cons c x=>cases c<;>first | exact ih (x:=x) hx hy | cases hx
  | mp kt vt =>
   cases x with
   | nil=>cases hx
   | cons c x =>
    cases c with
    | ump l =>
     simp only[tyl,Ty.mk]at hx;simp only[List.cons_append,tyl,Ty.mk];cases hc:l.cast kt vt with
     | none=>rw[hc]at hx;cases hx
     | some xs=>rw[hc]at hx;exact ih (x:=x) hx hy
    | _=>cases hx
  | bx t =>
   cases x with
   | nil=>cases hx
   | cons c x =>
    cases c with
    | sl l =>
     simp only[tyl,Ty.mk]at hx;simp only[List.cons_append,tyl,Ty.mk];cases hc:l.cast t with
     | none=>rw[hc]at hx;cases hx
     | some xs=>rw[hc]at hx;exact ih (x:=x) hx hy
    | _=>cases hx
  | oth =>
   cases x with
   | nil=>cases hx
   | cons c x=>cases c<;>first | exact ih (x:=x) hx hy | cases hx
theorem Opened.nil {n:Nat} {w:World}:Opened n w [] [] []:=⟨rfl,rfl,λj hj=>absurd hj (Iy j),rfl,λa ha=>(by cases ha)⟩
def Opened.append {n:Nat} {w:World} {a b:List CK} {x y:List Value} {p q:List A} (h1:Opened n w a x p) (h2:Opened n w b y q):Opened n w (a++b) (x++y) (p++q):=by
 refine⟨by simp [h1.lc,h2.lc],by simp [h1.la,h2.la],λj hj=> ?_,Atd a h1.made h2.made,λz hz=> ?_⟩
 .rw[Dp]at hj;by_cases h:j<a.length
  .have:=h1.rel j h;rw[Dn,Ez (by rw[h1.lc];exact h),<- Dn,Dn (l:=p++q),Ez (by rw[h1.la];exact h),<- Dn];exact this
  .have:=h2.rel (j - a.length) (by omega);rw[Dn,EI (by rw[h1.lc];omega),<- Dn,Dn (l:=p++q),EI (by rw[h1.la];omega),<- Dn,h1.lc,h1.la];exact this
 .rcases DN.1 hz with hz | hz
  .exact h1.ok z hz
  .exact h2.ok z hz
def Opened.one {n:Nat} {w:World} {k:CK} {v:Value} {a:A} (hr:J5 nobody w v a) (hm:((tyl [k]).mk [a]).1=true) (ho:okN n a):Opened n w [k] [v] [a] :=
 ⟨rfl,rfl,λj hj=>by
   have:j=0:=by simp at hj;omega
   subst this;exact hr,hm,λz hz=>by rw[Ec.1 hz];exact ho⟩
def ZP (P:Program) (n t:Nat):Nat:=match Q3 P n t with | some cs=>cs.length | none=>0
def AfQ (P:Program) (n:Nat):List Field->Nat->Bool
 | [],_=>true
 | f::r,o=>Nat.beq f.offset o&&Nat.beq (P.cellsOf f.type) (ZP P n f.type)&&AfQ P n r (o+ZP P n f.type)
def kC (P:Program):Nat->Nat->Bool
 | 0,_=>false
 | n+1,t=>match P.underlying t with
  | some .bool=>true
  | some (.int _)=>true
  | some .string=>true
  | some (.slice e)=>kC P n e&&Nat.beq (P.cellsOf e) (ZP P n e)&&Nat.blt 0 (ZP P n e)&&(match Q3 P n e with | some cs=>cs.all CK.plain | none=>false)
  | some (.struct fs)=>Nat.beq (P.cellsOf t) (ZP P (n+1) t)&&AfQ P n fs.toList 0&&fs.toList.all (λf=>kC P n f.type)
  | _=>false
section
variable {H:Type} {enc:TypeId×Value->H} {P:Program} {w:World} {base:Nat} {spare:Nat->Bool} {held:Bool}
theorem zS {a:Addr} {n:Nat} {cs:List Value} (h:w.cells? base a n=some cs):cs.length=n/\ ∀ j,j<n->w.cell? (a.add j)=some (cs.getD j undef):=by
 unfold World.cells? at h;split at h
 .have key: ∀(l:List Nat) (cs:List Value),l.mapM (λi=>w.cell? (a.add i))=some cs->cs.length=l.length/\ ∀ j (hj:j<l.length),w.cell? (a.add l[j])=some (cs.getD j undef):=by
   intro l
   induction l with
   | nil=>grind
   | cons i l ih =>
    intro cs h;rw[IA]at h;cases h1:w.cell? (a.add i)with
    | none=>rw[h1]at h;cases h
    | some v =>
     rw[h1]at h;cases h2:l.mapM (λi=>w.cell? (a.add i))with
     | none=>rw[h2]at h;cases h
     | some r =>
      rw[h2]at h;injection h with h;subst h;obtain⟨k1,k2⟩:=ih r h2;refine⟨by simp [k1],λj hj=> ?_⟩;cases j with
      | zero=>exact h1
      | succ j=>grind
  all_goals grind
 .cases h
theorem AvG {l:List Value} {o a b:Nat}:(l.drop o).take (a+b)=(l.drop o).take a++(l.drop (o+a)).take b:=by rw[List.take_add,Fj]
theorem wX (e:Nat) (t:Ty) (xs:List t.Val):((tyl [.sl e t]).mk [.sl ⟨t,xs⟩]).1=true:=by simp only[tyl,Ty.mk];rw[Sl.aU];rfl
theorem Adv (hspare: ∀ b,spare b=true): ∀(n:Nat) (t:TypeId) (ks:List CK) (fuel:Nat) (cs:List Value) (x:DataW H×List MemPlace),Q3 P n t=some ks->kC P n t=true->DataW.trod enc P w base spare held fuel t cs=some x ->
 ∃ aa,Opened n w ks cs aa:=by
 intro n
 induction n with
 | zero=>intro t ks fuel cs x h;cases h
 | succ n ih =>
  intro t ks fuel cs x hck hok h;unfold Q3 at hck;unfold kC at hok;cases hu:P.underlying t with
  | none=>rw[hu]at hck;cases hck
  | some d =>
   rw[hu]at hck hok;cases d with
   | bool =>injection hck with hck;subst hck;obtain⟨b,rfl,_⟩:=DataW.trod_bool hu h;exact⟨[.bool b],Opened.one (.bool b) rfl trivial⟩
   | int k =>
    injection hck with hck;subst hck;obtain⟨v,rfl,_,hw⟩:=DataW.trod_int hu h;have hk:Avh (.int k v):=by unfold Lit.wf at hw;rw[Dw,D6,D6]at hw;exact hw
    exact⟨[.int k v],Opened.one (.int k v) (by cases k<;>rfl) hk⟩
   | string =>
    injection hck with hck;subst hck;obtain⟨v,rfl,_,hw⟩:=DataW.trod_string hu h
    have hk:Avh (.str v.data.toList):=by
     show v.data.toList.length<=_;have e:v.data.toList.length=v.size:=by rw[Array.length_toList];rfl
     have:maxLen=9223372036854775807:=rfl;omega
    exact⟨[.str v.data.toList],Opened.one (.str v) rfl hk⟩
   | slice e =>
    dsimp only at hck hok;simp only[Dw]at hok;obtain⟨⟨⟨hoe,hce⟩,hc0⟩,hpl⟩:=hok;cases hke:Q3 P n e with
    | none=>rw[hke]at hpl;cases hpl
    | some ke =>
     rw[hke]at hck hpl;dsimp only at hck hpl;rw[hpl]at hck;injection hck with hck;subst hck;have hlen:P.cellsOf e=ke.length:=by have:=Dx hce;unfold ZP at this;rw[hke]at this;exact this
     rcases DataW.trod_slice hu h with ⟨rfl,_⟩ | ⟨a,len,cap,elems,rest,m,_,rfl,_,hb,hl,hm,hel,hels,hsp,_⟩
     .exact⟨[.sl ⟨tyl ke,[]⟩],Opened.one (.nil _) (wX _ _ _) ⟨Eb _,λc hc=>(by cases hc)⟩⟩
     .by_cases hcap:cap=0
      .have hlen0:len=0:=by omega
       subst hcap;subst hlen0;exact⟨[.sl ⟨tyl ke,[]⟩],Opened.one (.sl0 a _) (wX _ _ _) ⟨Eb _,λc hc=>(by cases hc)⟩⟩
      have hk0:0<P.cellsOf e:=by have h2:=Dx hce;rw[h2];simpa using hc0
      have hread: ∃ u,w.cell? a=some u:=by
       by_cases h0:0<len
       .have he:=hels 0 h0;rw[D8 (by omega:0<elems.length),GZ]at he;obtain⟨q,hq,_⟩:=he;obtain⟨_,k2⟩:=zS hq;have:=k2 0 hk0;rw[Hz]at this;exact⟨_,this⟩
       .have hz:len=0:=by omega
        obtain⟨hr1,hr2⟩:=hsp (hspare _);have he:=hr2 0 (by omega);rw[D8 (by omega:0<rest.length),GZ]at he;obtain⟨q,hq,_⟩:=he;obtain⟨_,k2⟩:=zS hq;have:=k2 0 hk0;rw[hz,Hz]at this;exact⟨_,this⟩
      have hspot:a.spot=none:=by
       obtain⟨u,hu⟩:=hread;unfold World.cell? at hu;split at hu
       .cases hs:a.spot with
        | none=>rfl
        | some z=>rw[hs]at hu;cases hu
       .cases hu
      have ha:a=at' a.block a.off:=by obtain⟨b,o,sp⟩:=a;dsimp only at hspot;rw[hspot]
      have each: ∀ i,∃(q:List Value) (aa:List A),i<len->(∀ j,j<ke.length->w.cell? (at' a.block (a.off+(i*ke.length+j)))=some (q.getD j undef))/\Opened n w ke q aa:=by
       intro i;by_cases hi:i<len
       .have he:=hels i hi;have hei:elems[i]? =some (elems[i]'(by omega)):=D8 (by omega);rw[hei,GZ]at he;obtain⟨q,hq,hq2⟩:=he;obtain⟨k1,k2⟩:=zS hq;rw[hlen]at k1 k2;obtain⟨aa,h1⟩:=ih e ke m q _ hke hoe hq2;refine⟨q,aa,λ_=>⟨λj hj=> ?_,h1⟩⟩;have:=k2 j hj;rw[ha,Si,Si]at this;rw[<- this];congr 2;omega
       .exact⟨[],[],λh=>absurd h hi⟩
      obtain⟨q,hq⟩:=GV each;obtain⟨aa,haa⟩:=GV hq;let l:Sl:=⟨tyl ke,(List.range len).map λi=>((tyl ke).mk (aa i)).2⟩
      have hes:l.es=(List.range len).map aa:=by show((List.range len).map λi=>((tyl ke).mk (aa i)).2).map (tyl ke).cells=_;rw[ES];refine Eu λi hi=> ?_;exact Ty.XA _ _ (haa i (Gy.1 hi)).2.made
      have hesl:l.es.length=len:=by rw[hes,D5,DW]
      have hsz:l.sz=ke.length:=WM ke;have hget: ∀ i,i<len->l.es.getD i []=aa i:=λi hi=>by rw[hes,Dn,Ep,Jf hi];rfl
      have hrel:J5 nobody w (.slice (some a) len cap) (.sl l):=by
       rw[ha,<- hesl];refine J5.sl (λi j=>(q i).getD j undef) (by rw[hesl];exact hl) (λi j hi hj=> ?_) (λi j hi hj=> ?_)
       .rw[hsz]at hj ⊢;exact⟨rfl,(haa i (by rw[<- hesl];exact hi)).1 j hj⟩
       .rw[hsz]at hj;have hi':i<len:=by rw[<- hesl];exact hi
        rw[hget i hi'];exact(haa i hi').2.rel j hj
      refine⟨[.sl l],Opened.one hrel (wX _ _ _) ⟨?_,λc hc z hz=> ?_⟩⟩
      .show((List.range len).map _).length<=_;rw[D5,DW];have:maxLen=9223372036854775807:=rfl;omega
      .rw[hes]at hc;obtain⟨i,hi,rfl⟩:=DK.1 hc;exact(haa i (Gy.1 hi)).2.ok z hz
   | struct fs =>
    dsimp only at hck hok;simp only[Dw]at hok;obtain⟨⟨hcl,hoff⟩,hall⟩:=hok;obtain⟨xs,m,_,_,hl,hxl,hxs⟩:=DataW.trod_struct hu h
    have fields: ∀(l:List Field) (o:Nat) (ks:List CK),l.foldr (λf acc=>match Q3 P n f.type,acc with | some a,some b=>some (a++b) | _,_=>none) (some [])=some ks->AfQ P n l o=true->(∀ f∈l,kC P n f.type=true) ->
     (∀ f∈l,∃ y,DataW.trod enc P w base spare held m f.type ((cs.drop f.offset).take (P.cellsOf f.type))=some y)-> ∃ aa,Opened n w ks ((cs.drop o).take ks.length) aa:=by
     intro l
     induction l with
     | nil =>intro o ks hk _ _ _;injection hk with hk;subst hk;exact⟨[],Opened.nil⟩
     | cons f r ihr =>
      intro o ks hk ho hf hy;rw[List.foldr_cons]at hk;cases ha:Q3 P n f.type with
      | none=>rw[ha]at hk;cases hk
      | some a =>
       rw[ha]at hk;cases hb:r.foldr (λf acc=>match Q3 P n f.type,acc with | some a,some b=>some (a++b) | _,_=>none) (some [])with
       | none=>rw[hb]at hk;cases hk
       | some b =>
        rw[hb]at hk;injection hk with hk;subst hk;have hal:ZP P n f.type=a.length:=by unfold ZP;rw[ha]
        unfold AfQ at ho;simp only[Dw]at ho;obtain⟨⟨h1,h2⟩,h3⟩:=ho;have h1:=Dx h1;have h2:=Dx h2;rw[hal]at h2 h3;obtain⟨y,hy1⟩:=hy f Dy;rw[h1,h2]at hy1;obtain⟨pa,p1⟩:=ih f.type a m _ y ha (hf f Dy) hy1;obtain⟨pb,q1⟩:=ihr (o+a.length) b hb h3 (λg hg=>hf g (Dz _ hg)) (λg hg=>hy g (Dz _ hg));refine⟨pa++pb,?_⟩;rw[Dp,AvG];exact p1.append q1
    obtain⟨aa,h1⟩:=fields fs.toList 0 ks hck hoff (λf hf=>DI.1 hall f hf) (λf hf=>by
     obtain⟨i,hi⟩:=List.getElem?_of_mem hf;have hi':fs[i]? =some f:=by rw[<- ET];exact hi
     have:=hxs i f hi';have hlt:i<xs.length:=by rw[hxl];exact(DX.1 hi').1
     rw[D8 hlt]at this;exact⟨_,this⟩)
    have hcs:(cs.drop 0).take ks.length=cs:=by
     rw[G5];refine Fp ?_;have h3:=Dx hcl;have h4:ZP P (n+1) t=ks.length:=by unfold ZP Q3;rw[hu];dsimp only;rw[hck]
     omega
    rw[hcs]at h1;exact⟨aa,h1.up⟩
   | _=>cases hok
theorem ApK {r:Reach} {b0:Nat} {u:TypeId} {cs:Array Value} (h:Cell.okWide P w r b0 u (.agg cs)):False:=by
 have h':Cell.ok P w r b0 u (.agg cs):=by unfold Cell.okWide at h;all_goals grind
 unfold Cell.ok at h';all_goals grind
def Apz (P:Program) (t:TypeId):Bool:=match P.underlying t with
 | some (.struct _)=>true
 | some (.array _ _)=>true
 | _=>false
theorem open_cell {r:Reach} {b0 n:Nat} {t:TypeId} {v:Value} {d:DataW H} {ps:List MemPlace} {k:CK} (hck:Q3 P n t=some [k]) (hspare: ∀ b,spare b=true) (hok:kC P n t=true) (ha:Apz P t=false) (hval:Value.okWide P w r b0 t v) (hd:DataW.Trod enc P w base spare held t v d ps) :
 ∃ a,J5 nobody w v a/\((tyl [k]).mk [a]).1=true/\okN n a:=by
 have hc:Cell.okWide P w r b0 t v:=by unfold Value.okWide at hval;all_goals grind[Apz]
 have hcells:v.cells.toList=[v]:=by
  cases v with
  | agg cs=>exact(ApK hc).elim
  | _=>rfl
 obtain⟨fuel,h⟩:=hd;rw[hcells]at h;obtain⟨aa,h1⟩:=Adv hspare n t [k] fuel [v] _ hck hok h;obtain⟨a,rfl⟩: ∃ a,aa=[a]:=Hf.1 h1.la;exact⟨a,h1.rel 0 (by show 0<1;omega),h1.made,h1.ok a Dy⟩
theorem Avj {r:Reach} {b0 n:Nat} {t:TypeId} {v:Value} {d:DataW H} {ps:List MemPlace} {ks:List CK} (hck:Q3 P n t=some ks) (hspare: ∀ b,spare b=true) (hok:kC P n t=true) (ha:Apz P t=true) (hval:Value.okWide P w r b0 t v) (hd:DataW.Trod enc P w base spare held t v d ps) :
 ∃(cs:Array Value) (aa:List A),v= .agg cs/\Opened n w ks cs.toList aa:=by
 have hc: ∃ cs,v= .agg cs/\cs.size=P.cellsOf t/\Row.okWide P w r b0 t cs:=by unfold Value.okWide at hval;all_goals grind[Apz]
 obtain⟨cs,rfl,_,ts,_,_,hrow⟩:=hc;obtain⟨fuel,h⟩:=hd;obtain⟨aa,h1⟩:=Adv hspare n t ks fuel cs.toList _ hck hok h;exact⟨cs,aa,rfl,h1⟩
theorem Opened.ir {n:Nat} {ks:List CK} {cs:Array Value} {aa:List A} (h:Opened n w ks cs.toList aa) (id:Nat):IR nobody w id (.agg cs) (.agg aa):=by
 refine⟨cs,rfl,?_,λj hj=>J5.ic ?_⟩
 .rw[<- Array.length_toList,h.lc,h.la]
 .have:=h.rel j (by rw[<- h.la];exact hj);all_goals simp_all[CK,IR,nobody]
theorem J5.ir {id:Nat} {v:Value} {a:A} (h:J5 nobody w v a):IR nobody w id v a:=by have:=h.ic (id:=id);cases h<;>exact this
end
open Go Go.Lib
abbrev tabs:List (String×DataW Unit):=[("math/bits.deBruijn32tab",Rows.laid_math_bits_deBruijn32tab),("math/bits.deBruijn64tab",Rows.laid_math_bits_deBruijn64tab),("internal/strconv.uint64pow10",Rows.laid_internal_strconv_uint64pow10),("unicode/utf8.acceptRanges",Rows.laid_unicode_utf8_acceptRanges),("unicode/utf8.first",Rows.laid_unicode_utf8_first)]
def Azg:DataW Unit->Value
 | .lit (.int k n)=>.int k n
 | _=>undef
def AmT:DataW Unit->List Value
 | .agg l=>l.map Azg
 | _=>[]
def Azj:DataW Unit->List Value
 | .agg l=>l.flatMap AmT
 | _=>[]
noncomputable def laidWorld (os:Os):World :=
 let w0:=World.holding Tryz.prog os ⟨#[],#[],[]⟩
 {w0 with heap:=((((w0.heap.modify 1 fun
  | .cells _ t frozen=>.cells (AmT Rows.laid_internal_strconv_uint64pow10).toArray t frozen
  | o=>o).modify 2 fun
  | .cells _ t frozen=>.cells (AmT Rows.laid_unicode_utf8_first).toArray t frozen
  | o=>o).modify 3 fun
  | .cells _ t frozen=>.cells (Azj Rows.laid_unicode_utf8_acceptRanges).toArray t frozen
  | o=>o).modify 4 fun
  | .cells _ t frozen=>.cells (AmT Rows.laid_math_bits_deBruijn32tab).toArray t frozen
  | o=>o).modify 5 fun
  | .cells _ t frozen=>.cells (AmT Rows.laid_math_bits_deBruijn64tab).toArray t frozen
  | o=>o}
def laid_met (os:Os) (args:Array Value):laidMet Tryz.prog tabs ((laidWorld os).forCall (λ_ _=>0) ⟨#[],args,[]⟩).memory :=
 laidMet_of_run' 8 (by kernel_rfl) (by kernel_rfl)
set_option maxRecDepth 100000 in
def Avr {W:World} (h:laidMet Tryz.prog tabs W) (j:Nat) (hj:j<20):W.cell? ⟨1,j,none⟩=some (.int .u64 ((10 ^ j:Nat):Int)):=by
 obtain⟨g,t,cs,fuel,p,hg,ht,hvar,hd⟩:=laidMet.reads h (n:= "internal/strconv.uint64pow10") (d:=Rows.laid_internal_strconv_uint64pow10) (Dz _ (Dz _ Dy));obtain rfl:=Fv ((show Tryz.prog.globalNamed "internal/strconv.uint64pow10" =some 1 by kernel_rfl).symm.trans hg);obtain rfl:=Fv ((show(Tryz.prog.globals[1]?).map (·.type)=some 352 by kernel_rfl).symm.trans ht);have hu:Tryz.prog.underlying 352=some (.array 20 194):=by kernel_rfl
 have hu2:Tryz.prog.underlying 194=some (.int .u64):=by kernel_rfl
 have hc:Tryz.prog.cellsOf 194=1:=by kernel_rfl
 have hds:(Rows.laid_internal_strconv_uint64pow10:DataW Unit)= .agg ((List.range 20).map λj=>.lit (.int .u64 ((10 ^ j:Nat):Int))):=by kernel_rfl
 rw[hds]at hd;obtain⟨fuel',d,q,h1,h2⟩:=array_elem hu hd j hj;rw[Ep,Jf hj]at h1;injection h1 with h1;subst h1;rw[hc,F6]at h2;obtain⟨n,h3,h4,_⟩:=DataW.trod_int hu2 h2;have hn:((10 ^ j:Nat):Int)=n:=by have:=congrArg Prod.fst h4;injection this with this;injection this with _ this
 rw[World.var?_cell hg hvar j]
 have h5:(cs.toList.drop j)[0]? =some (.int .u64 n):=by
  have:((cs.toList.drop j).take 1)[0]? =some (.int .u64 n):=by rw[h3];rfl
  rwa [GL (by omega)]at this
 rw[FK,Nat.add_zero,ET]at h5;rw[h5,hn]
def inv_of {W:World} (hs:W.ShapedOpen Tryz.prog) (hl:laidMet Tryz.prog tabs W):Inv nobody W:=by
 refine⟨λg j p h=> ?_,λg n h=> ?_⟩
 .unfold oU at h;split at h
  .injection h with h;subst h;obtain⟨m,hm⟩:=cell_of_shapedOpen_int (P:=Tryz.prog) (g:=0) (t:=3) (zero:= #[.int .i64 0]) (k:=.i64) hs (DC (by kernel_rfl)) (by kernel_rfl) rfl (by kernel_rfl) (by kernel_rfl) (by kernel_rfl);exact⟨rfl,_,hm,m,rfl⟩
  .split at h
   .rename_i hj;injection h with h;subst h;exact⟨rfl,_,Avr hl _ hj,rfl⟩
   .cases h
  .cases h
 .unfold AvI at h;split at h
  .injection h with h;subst h;obtain⟨cs,h1,h2,_⟩:=hs.1 1 (Array.replicate 20 (.int .u64 0)) 352 (DC (by kernel_rfl)) (by kernel_rfl);exact⟨cs,_,_,h1,h2⟩
  .cases h
section
variable {H:Type} {enc:TypeId×Value->H}
theorem AmS {a:Assume} {C:Checked} {os:Os} {f:FuncId} {fn:Func} {s:ChangeSpec} {conds:List PathCond} {apart fresh handsOn again:Bool} {X:World->Array Value->Prop}
 (hX: ∀(w w':World) (args:Array Value),w.heap=w'.heap->X w args->X w' args)
 (own:ownKnob C.prog.godebug=none) (started:os.Started) (noInit:C.prog.inits.idxOf? f=none) (hfn:C.prog.funcs[f]? =some fn)
 (witness: ∃(w:World) (tape:Tape) (i:Input),w.os=os/\(w.forCall tape i).Shaped C.prog/\i.vars=[]/\Input.okWide C.prog (w.forCall tape i) .any w.heap.size f i /\
   ((s.pre enc C.prog fn conds apart (w.forCall tape i).memory i.args/\X (w.forCall tape i).memory i.args)/\sizedMet enc C.prog fn (OpenSpec.ofChange s) apart (w.forCall tape i).memory i.args)/\a.holds C.prog (lone (Frame.enter C.prog f i.args .normal) [] (w.forCall tape i)))
 (contract: ∀(W:World) (base:Nat) (args:Array Value) (ds gs:List (DataW H)) (before:List MemPlace),
   (∀(j:Nat) t v,fn.params[j]? =some t->args[j]? =some v->Value.okWide C.prog W .any base t v) ->
   DataW.Whole enc C.prog fn.params.toList s.vars apart W args.toList ds gs before->W.ShapedOpen C.prog->X W args ->
   Calls C.prog f args W λe W'=> ∃ v,e= .returned v/\s.post enc C.prog fn apart fresh handsOn again W args v W') :
 ReturnsInHanded a C os f .any (λw args=>(s.pre enc C.prog fn conds apart w args/\X w args)/\sizedMet enc C.prog fn (OpenSpec.ofChange s) apart w args) (s.post enc C.prog fn apart fresh handsOn again):=by
 refine returnsInHanded_of_calls own started noInit witness ?_;intro w tape i _ hsh _ hok hpre _;obtain⟨_,_,_,fn',hfn',_,_,_,_,hval⟩:=hok;obtain rfl:=Fv (hfn'.symm.trans hfn);obtain⟨⟨⟨ds,gs,before,hw,_⟩,hx⟩,_⟩:=hpre;refine(contract (w.forCall tape i) w.heap.size i.args ds gs before hval (DataW.Whole.of_heap (w':=w.forCall tape i) (by rfl) hw) hsh (hX _ _ _ (by rfl) hx)).mono λe W' ⟨v,he,hp⟩=> ?_;subst he;exact ChangeSpec.post_blind hp
end
end Go.Proofs.YtacidcemomccpaaGreatDoor.Vm
