import Derived.Test.YtfgdgdnlglejbaaGreatDoorA15
import Derived.Test.YtfgdgdnlglejbaaGreatDoorA21
import Derived.ChangeArms
import Derived.SliceStrings
import Derived.Test.YtfgdgdnlglejbaaGreatDoorRows
import Derived.Test.YtfgdgdnlglejbaaGreatDoorChecked
import Derived.Lib.LaidU8
import Derived.Shelf.Vars
import Derived.HandedShaped
import Derived.LaidLaws
set_option linter.all false
namespace Go.Proofs.YtfgdgdnlglejbaaGreatDoor.Pl
open IntKind (i64 u8 u32 u64)
open Go Vm
def Awy {X Y S ρ :Type} {B:X->(X->Option ρ)->(Y->Option ρ)->Option ρ} {kx:Y->Option ρ} (mk:Nat->S->X) (n:Nat) (f:Nat->S->S) (fin:S->Option ρ)
 (h: ∀(i:Nat) (s:S),i<n-> ∀ k,B (mk i s) k kx=k (mk (i+1) (f i s)))
 (hend: ∀(s:S) (k:X->Option ρ),B (mk n s) k kx=fin s) (N:Nat) (s:S) (hN:n<N):J8 B N (mk 0 s) kx=fin ((List.range n).foldl (fun s i=>f i s) s):=by
 have key: ∀ m i s,i+m=n-> ∀ N,m<N->J8 B N (mk i s) kx=fin ((List.range' i m).foldl (fun s i=>f i s) s):=by
  intro m
  induction m with
  | zero =>
   intro i s hi N hN;obtain⟨N,rfl⟩: ∃ K,N=K+1:=⟨N - 1,by omega⟩
   have hi:i=n:=hi;subst hi;rw[Nu,hend];rfl
  | succ m ih =>
   intro i s hi N hN;obtain⟨N,rfl⟩: ∃ K,N=K+1:=⟨N - 1,by omega⟩
   rw[Nu,h i s (by omega),ih (i+1) _ (by omega) N (by omega)];rfl
 rw[Ij];exact key n 0 s (by omega) N hN
def Ayq {α :Type} (p: α ->Bool): ∀(l:List α) (b:Bool),l.foldl (fun s x=>s||p x) b=(b||l.any p):=by
 intro l
 induction l with
 | nil=>intro b;simp
 | cons x r ih=>intro b;rw[List.foldl_cons,ih,List.any_cons,Bool.or_assoc]
def Avo (r s:List Att):Bool:=(r.length==s.length)&&r.all (fun a=>s.any fun b=>a.1==b.1&&(a.2.1==b.2.1&&(a.2.2==b.2.2&&true)))
def AyX:(NJ.all fun r=>Avo r (eY r)&&decide (r.length<=2))=true:=by kernel_rfl
section
variable {N:Nat} (hN:1048578<N)
include hN
theorem ArC (n m:List (List Att)) (hl:m.length=n.length) (hn:n.length<=1048576) (h: ∀ i,i<n.length->Avo (n.getD i []) (m.getD i [])=true/\(n.getD i []).length<=1048576):LY N n m=some true:=by
 unfold LY;try simp only[clR]
 rw[Zz (by rw[hl]),cond_false];refine MR (fun i=>((i:Int),n,m)) n.length (some true) ?_ ?_ N (by omega)
 .intro i hi k;obtain⟨h1,h2⟩:=h i hi;unfold Avo at h1;rw[Dw,EG,D7]at h1;obtain⟨h3,h4⟩:=h1;have him:i<m.length:=by omega
  dsimp only[U3];simp (disch:=first | assumption | omega) only[JO,Zz (show(((n.getD i []).length:Nat):Int)=(((m.getD i []).length:Nat):Int) by rw[h3])];refine MR (fun j=>((j:Int),n,m)) (n.getD i []).length (k (((i+1:Nat):Int),n,m)) ?_ ?_ N (by omega)
  .intro j hj k2;have ha:=h4 _ (getD_mem ([],0,[]) hj);simp (disch:=first | assumption | omega) only[JO];generalize (n.getD i []).getD j ([],0,[])=a at *
   refine(Awy (S:=Bool) (fun q b=>(b,(q:Int),n,m,a.1,a.2.1,a.2.2)) (m.getD i []).length (fun q b=>b||(a.1==((m.getD i []).getD q ([],0,[])).1&&(a.2.1==((m.getD i []).getD q ([],0,[])).2.1&&(a.2.2==((m.getD i []).getD q ([],0,[])).2.2&&true)))) (fun b=>bif !b then some false else k2 (((j+1:Nat):Int),n,m)) ?_ ?_ N false (by omega)).trans ?_
   .intro q b hq k3;simp (disch:=first | assumption | omega) only[JO];rfl
   .intro b k3;simp (disch:=first | assumption | omega) only[JO];rfl
   .rw[Ayq,GL];obtain⟨b,hb,hb2⟩:=FB.1 ha;obtain⟨q,hq,rfl⟩:=FH.1 hb;rw[FB.2 ⟨q,ES.2 hq,by rw[getD_lt (m.getD i []) q _ hq];exact hb2⟩];rfl
  .intro k2;simp (disch:=first | assumption | omega) only[JO];rfl
 .intro k;simp (disch:=first | assumption | omega) only[JO]
theorem nN {n:List (List Att)} (hn:okN n):LY N n (nmC n)=some true:=by
 have h3:=hn.1;refine ArC hN n (nmC n) (Dz _) (by omega) fun i hi=> ?_;have hm:(nmC n).getD i []=eY (n.getD i []):=by unfold nmC;rw[getD_lt _ _ _ (by rw[Dz];exact hi),Fb,getD_lt n i [] hi]
 have:=D7.1 AyX _ (hn.2 _ (getD_mem [] hi));rw[Dw,DK]at this;rw[hm];exact⟨this.1,by omega⟩
theorem bZ {l:List Gn} (hl:l.length<=1048576) (h: ∀ g∈l,okN g.2.2):L9 N l (l.map gnK)=some true:=by
 have hL:(l.map gnK).length=l.length:=Dz _;unfold L9;try simp only[clR]
 rw[Zz (by rw[hL]),cond_false];refine MR (fun i=>(i:Int)) l.length (some true) ?_ ?_ N (by omega)
 .intro i hi k;have hn:=h _ (getD_mem (0,[],[]) hi);have h1:=nN hN hn;have hm:(l.map gnK).getD i (0,[],[])=gnK (l.getD i (0,[],[])):=by rw[getD_lt _ _ _ (by rw[Dz];exact hi),Fb,getD_lt l i (0,[],[]) hi]
  have him:i<(l.map gnK).length:=by omega
  generalize l.map gnK=m at *
  simp (disch:=first | assumption | omega) only[JO,hm];generalize l.getD i (0,[],[])=g at *
  unfold gnK;simp only[h1,Em,Ej,Option.isSome_some,Option.getD_some,EO,F8,L8,EK,EY,cond_false,cond_true,FM];rfl
 .intro k;simp (disch:=first | assumption | omega) only[JO]
omit hN in
theorem Ahf:okN []:=⟨Es _,fun r hr=>by cases hr⟩
theorem Aae {l:List Gn} (hl:l.length<=1048576) (h: ∀ g∈l,okG g):L9 N l (l.map gnK)=some true:=bZ hN hl fun g hg=>by
 rcases h g hg with h1 | ⟨n,hn,e⟩
 .have:=D7.1 (show AgH.all (fun g=>g.2.2.isEmpty)=true by decide) _ h1;rw[Fe]at this;rw[this];exact Ahf
 .rw[e];exact hn
theorem Ae6 {l:List Pt} (hl:l.length<=1048576) (h: ∀ p∈l,okP p):NG N l (l.map ptK)=some true:=by
 have hL:(l.map ptK).length=l.length:=Dz _;unfold NG;try simp only[clR]
 rw[Zz (by rw[hL]),cond_false];refine MR (fun i=>(i:Int)) l.length (some true) ?_ ?_ N (by omega)
 .intro i hi k;have hp:=h _ (getD_mem ([],0,false,[]) hi);have hm:(l.map ptK).getD i ([],0,false,[])=ptK (l.getD i ([],0,false,[])):=by rw[getD_lt _ _ _ (by rw[Dz];exact hi),Fb,getD_lt l i ([],0,false,[]) hi]
  have him:i<(l.map ptK).length:=by omega
  generalize l.map ptK=m at *
  have h1:L9 N (l.getD i ([],0,false,[])).1 ((l.getD i ([],0,false,[])).1.map gnK)=some true:=by obtain⟨g,hg,e⟩:=hp.nm;rw[e];exact Aae hN (l:=[g]) (by show 1<=_;omega) fun x hx=>by rw[Ei.1 hx];exact hg
  have h2:LY N (l.getD i ([],0,false,[])).2.2.2 (nmC (l.getD i ([],0,false,[])).2.2.2)=some true:=by
   refine nN hN ?_;rcases hp.is with ⟨_,e⟩ | ⟨_,e,_⟩
   .rw[e];exact⟨Es _,fun r hr=>by cases hr⟩
   .exact e
  simp (disch:=first | assumption | omega) only[JO,hm];generalize l.getD i ([],0,false,[])=p at *
  unfold ptK;simp only[h1,h2,Jy,Em,Ej,Option.isSome_some,Option.getD_some,EO,F8,L8,EK,EY,cond_false,cond_true,FM,oU];rfl
 .intro k;simp (disch:=first | assumption | omega) only[JO]
end
def A26 {c:Crt} (h:A1b c): ∃ C:Ce,Ab9 C/\c=C.c c.1 c.2.1 c.2.2.2.2.2.2.2.2.2.2.2.2.2.2.2.2.2.2.2.2.2.2.2.2.2.2.2.2.2:=by obtain⟨c0,c1,se,is,su,nb,nf,kh,ki,kr,B,D,F,G,H,I,J,L,M,O,P,Q,R,S,T,U,V,W,X,sg⟩:=c;exact⟨⟨se,is,su,nb,nf,kh,ki,kr,B,D,F,G,H,I,J,L,M,O,P,Q,R,S,T,U,V,W,X⟩,h,rfl⟩
section
variable {N:Nat} (hN:1048578<N)
include hN
theorem pG {l:List Bs} (hl:l.length<=1048576):NS N l l=some true:=by
 unfold NS;try simp only[clR]
 rw[Zz rfl,cond_false];refine MR (fun i=>(i:Int)) l.length (some true) ?_ ?_ N (by omega)
 .intro i hi k;simp (disch:=first | assumption | omega) only[JO,KI,Em]
 .intro k;simp (disch:=first | assumption | omega) only[JO]
theorem AhK {l:List (Bs×Bs)} (hl:l.length<=1048576):Q3 N l l=some true:=by
 unfold Q3;try simp only[clR]
 rw[Zz rfl,cond_false];refine MR (fun i=>(i:Int)) l.length (some true) ?_ ?_ N (by omega)
 .intro i hi k;simp (disch:=first | assumption | omega) only[JO,KI,Em]
 .intro k;simp (disch:=first | assumption | omega) only[JO]
theorem AdG {l:List Ex} (hl:l.length<=1048576):Pz N l l=some true:=by
 unfold Pz;try simp only[clR]
 rw[Zz rfl,cond_false];refine MR (fun i=>(i:Int)) l.length (some true) ?_ ?_ N (by omega)
 .intro i hi k;simp (disch:=first | assumption | omega) only[JO,KI,Em]
 .intro k;simp (disch:=first | assumption | omega) only[JO]
omit hN in
theorem Alp {g:Gn} (h:okB g):okN g.2.2:=by
 rcases h with h1 | ⟨n,hn,e⟩
 .have:=D7.1 (show AjV.all (fun g=>g.2.2.isEmpty)=true by decide) _ h1;rw[Fe]at this;rw[this];exact Ahf
 .rw[e];exact hn
theorem At4 {x:Info} (h:OkI x):Us N x (inK x)=some true:=by
 have hun:=Ab7 h.un;obtain⟨B,D,F,G,H,I,J,L,M,O,P,Q,R,S,T,U,V,W,X⟩:=x;dsimp only at hun;have s1:=pG hN (l:=H) (by have:=h.pu.len;dsimp only at this;omega);have s2:=pG hN (l:=I) (by have:=h.po.len;dsimp only at this;omega);have s3:=AhK hN (l:=J) (by have:=h.ma.len;dsimp only at this;omega);have s4:=Aae hN (l:=P) (by have:=h.na.1;dsimp only at this;omega) h.na.2
 have s5:Qz N (R,S) (R.map gnK,S.map gnK)=some true:=by
  have hs:R.length<=3/\S.length<=3/\(∀ g∈R,okB g)/\ ∀ g∈S,okB g:=by
   rcases h.con with ⟨_,h1,h2⟩ | ⟨_,h1⟩
   .dsimp only at h1 h2;rw[h1,h2];exact⟨Es _,Es _,fun g hg=>(by cases hg),fun g hg=>(by cases hg)⟩
   .exact⟨h1.l0,h1.l1,h1.a0,h1.a1⟩
  have a1:=bZ hN (l:=R) (by omega) fun g hg=>Alp (hs.2.2.1 g hg);have a2:=bZ hN (l:=S) (by omega) fun g hg=>Alp (hs.2.2.2 g hg);unfold Qz;try simp -zeta only[Ap]
  simp only[a1,a2,Jy,EO,L8,Option.isSome_some,Option.getD_some,cond_true]
 have s6: ∀ l,(l=[]\/VH l)->NG N l (l.map ptK)=some true:=by
  rintro l (rfl | h1)
  .exact Ae6 hN (l:=[]) (Es _) fun p hp=>by cases hp
  .exact Ae6 hN (by have:=h1.len;omega) h1.all
 have s7:=s6 V h.pt;have s8:=s6 W h.fr;have s9:=AdG hN (l:=X) (by omega);unfold Us inK;try simp -zeta only[Ap]
 simp only[J5,Em,cond_true,L8,EO,Option.isSome_some,Option.getD_some,s1,s2,s3,s4,s5,s7,s8,s9]
theorem ApD {C:Ce} (h:Ab9 C) (raw tbs sig raw' tbs' sig':Bs):Qj N (C.c raw tbs sig) (C.K.c raw' tbs' sig')=some true:=by
 have h1:=nN hN h.is;have h2:=nN hN h.su;have h3:=At4 hN h.x;unfold Ce.K;obtain⟨se,is,su,nb,nf,kh,ki,kr,B,D,F,G,H,I,J,L,M,O,P,Q,R,S,T,U,V,W,X⟩:=C;dsimp only at h1 h2 h3 ⊢;unfold inK at h3 ⊢;unfold Qj;try simp -zeta only[Ap]
 simp only[J5,Em,cond_true,L8,EO,Gh,Option.isSome_some,Option.getD_some,h1,h2,h3]
end
abbrev CrT:Type:=Bs×Bs×Int×List RnT×List RnT×Int×Int×Int×Bs×Bs×Bool×Bool×Int×Int×List Bs×List Bs×List (Bs×Bs)×Int×Int×Int×List GnT×Bool×List GnT×List GnT×Bs×Bs×List PtT×List PtT×List (Bs×Bool×Bs)×Bs
def N0:Nat:=2097152
def ApQ:Big N0:=⟨by decide,by decide⟩
def crR:CrT×List Int×Int:=(Rl N0 ([],0)).getD default
def crA:CrT:=crR.1
def A0h:Rl N0 ([],0)=some (crA,crR.2):=by kernel_rfl
def uH:Bs:=((U1 N0 crA).getD default).1
def A0R:U1 N0 crA=some (uH,0):=by kernel_rfl
def Azk:(decide (uH.length<=1000))=true:=by kernel_rfl
def sgF (f:Nat->UInt8):Bs:=(List.range 564).map f
def outA (f:Nat->UInt8):Bs:=((P8 N0 uH (sgF f)).getD default).1
def A0H (f:Nat->UInt8):P8 N0 uH (sgF f)=some (outA f,0):=by kernel_rfl
def Amv (f:Nat->UInt8):CrT:=((Oh N0 (outA f)).getD default).1
def A0j (f:Nat->UInt8):Oh N0 (outA f)=some (Amv f,0):=by kernel_rfl
def Ayd (f:Nat->UInt8):(Amv f).1=outA f:=by kernel_rfl
def Ayf (f:Nat->UInt8):(Amv f).2.1=uH:=by kernel_rfl
def Aye (f:Nat->UInt8):(Amv f).2.2.2.2.2.2.2.2.2.2.2.2.2.2.2.2.2.2.2.2.2.2.2.2.2.2.2.2.2=sgF f:=by kernel_rfl
def zero_eq:U1 N0 (([]:Bs),([]:Bs),0,([]:List RnT),([]:List RnT),0,0,0,([]:Bs),([]:Bs),false,false,0,0,([]:List Bs),([]:List Bs),([]:List (Bs×Bs)),0,0,0,([]:List GnT),false,([]:List GnT),([]:List GnT),([]:Bs),([]:Bs),([]:List PtT),([]:List PtT),([]:List (Bs×Bool×Bs)),([]:Bs))=some ([],21):=by kernel_rfl
def sd1:Bs:=(Tn N0 1).getD []
def A2h:Tn N0 1=some sd1:=by kernel_rfl
def Ab1:sd1.length=32:=by kernel_rfl
def A2i {l:Bs} (h:l.length=564):sgF (fun i=>l.getD i 0)=l:=by
 unfold sgF;rw[<- h];apply Je
 .simp
 .intro i h1 h2;simp [Dn,h2]
def Azc {N:Nat} (h:Big N) {sd:Bs} (hs:sd.length=32) (m:Bs):(aX N sd m).length=564:=by unfold aX;rw[Dv,Ada h (id_eq h hs).2 hs 0 (AiZ N sd m)];rfl
def fA:Nat->UInt8:=fun i=>(aX N0 sd1 uH).getD i 0
def Az8:sgF fA=aX N0 sd1 uH:=A2i (Azc ApQ Ab1 uH)
def Atq:uH.length+64<N0:=by have:=D6 Azk;show _<2097152;omega
attribute [irreducible] N0 crA crR uH outA Amv sd1
def Ax9:Z4 N0 crA (Arw N0 sd1)=some (outA fA,0,Arx N0 sd1):=by
 have e1:=AxA ApQ Ab1 Atq;have e2:=A0H fA;rw[Az8]at e2;unfold Z4;try simp -zeta only[Ap]
 rw[A0R,Jy];dsimp only;rw[show((0:Int) != 0)=false from rfl,cond_false];have e1':Q4 N0 (sd1,0,0,[Adj N0 sd1]) uH=_:=e1;dsimp only[Arw,List.headD_cons];rw[e1',Jy];dsimp only;rw[show((0:Int) != 0)=false from rfl,cond_false,e2,Jy];rfl
def AvG:Yb N0 (Amv fA) (AfZ N0 sd1)=some 0:=by
 unfold Yb;try simp -zeta only[Ap]
 rw[Ayf,Aye,Az8,At1 ApQ Ab1 Atq];rfl
def AvM {N:Nat} {sd out:Bs} {t0 t1:TrT} {c dec:CrT} {d:List Int×Int} {k:Int×Bs×Bs} (h1:Tn N 1=some sd) (h2:aY N sd 0=some (.inl ((sd,0,0,[t0]),0))) (h3:Rl N ([],0)=some (c,d))
 (h4:Z4 N c (sd,0,0,[t0])=some (out,0,(sd,0,1,[t1])))
 (h5:Oh N out=some (dec,0)) (h6:U1 N (([]:Bs),([]:Bs),0,([]:List RnT),([]:List RnT),0,0,0,([]:Bs),([]:Bs),false,false,0,0,([]:List Bs),([]:List Bs),([]:List (Bs×Bs)),0,0,0,([]:List GnT),false,([]:List GnT),([]:List GnT),([]:Bs),([]:Bs),([]:List PtT),([]:List PtT),([]:List (Bs×Bool×Bs)),([]:Bs))=some ([],21)) (h7:dec.1=out) (h8:QU N (sd,0,1,[t1])=some (k,(sd,0,1,[t1]))) (h9:Yb N dec k=some 0):Rk N=some true:=by
 unfold Rk;try simp -zeta only[Ap]
 rw[h1,Jy,h2,NW];dsimp only;simp (decide:=true) only[cond_true,cond_false,L8,EK,EY,F8,EO,Ej];rw[show dV N []=some ([],0)from rfl,Jy,h3,Jy];dsimp only[List.headD_cons];rw[h4,Jy];dsimp only;rw[h5,Jy,h6,Jy];dsimp only[List.headD_cons];rw[h7];simp (decide:=true) only[cond_true,cond_false,L8,oU,Em];rw[h8,Jy];dsimp only;rw[h9,Jy];rfl
def AxJ:Rk N0=some true:=AvM A2h (A1f ApQ Ab1) A0h Ax9 (A0j fA) zero_eq (Ayd fA) (AzT ApQ Ab1) AvG
section
variable {N:Nat} (hN:1048578<N)
include hN
theorem A2b {r:List Att} (h:r∈NJ):eY (eY r)=eY r:=by unfold eY;rw[show PH (((LW 300 (JX 49 (PH r))).getD default).1)=PH r from(Vw hN h).enc]
theorem Ap4 {n:List (List Att)} (h:okN n):nmC (nmC n)=nmC n:=by unfold nmC;rw[EC];exact Ea fun r hr=>A2b hN (h.2 r hr)
theorem A2D {g:Gn} (h:okN g.2.2):gnK (gnK g)=gnK g:=by unfold gnK;dsimp only;rw[Ap4 hN h]
theorem Apz {l:List Gn} (h: ∀ g∈l,okN g.2.2):(l.map gnK).map gnK=l.map gnK:=by rw[EC];exact Ea fun g hg=>A2D hN (h g hg)
omit hN in
theorem AwY {g:Gn} (h:okG g):okN g.2.2:=by
 rcases h with h1 | ⟨n,hn,e⟩
 .have:=D7.1 (show AgH.all (fun g=>g.2.2.isEmpty)=true by decide) _ h1;rw[Fe]at this;rw[this];exact Ahf
 .rw[e];exact hn
theorem Axn {l:List Pt} (h:l=[]\/VH l):(l.map ptK).map ptK=l.map ptK:=by
 rcases h with rfl | h
 .rfl
 rw[EC];refine Ea fun p hp=> ?_;have P:=h.all p hp;obtain⟨g,hg,e⟩:=P.nm;have h1:(p.1.map gnK).map gnK=p.1.map gnK:=Apz hN fun x hx=>by rw[e,Ei]at hx;rw[hx];exact AwY hg
 have h2:nmC (nmC p.2.2.2)=nmC p.2.2.2:=Ap4 hN (by
  rcases P.is with ⟨_,e⟩ | ⟨_,e,_⟩
  .rw[e];exact Ahf
  .exact e)
 show ptK (ptK p)=ptK p;unfold ptK;dsimp only;rw[h1,h2]
theorem A2G {x:Info} (h:OkI x):inK (inK x)=inK x:=by
 obtain⟨B,D,F,G,H,J,M,O,Q,R,S,hc,T,U,V,W,pt,fr,un⟩:=x;have h1:=Apz hN (l:=S) fun g hg=>AwY (h.na.2 g hg)
 have hs:(∀ g∈T,okN g.2.2)/\ ∀ g∈U,okN g.2.2:=by
  rcases h.con with ⟨_,h1,h2⟩ | ⟨_,h1⟩
  .dsimp only at h1 h2;rw[h1,h2];exact⟨fun g hg=>(by cases hg),fun g hg=>(by cases hg)⟩
  .exact⟨fun g hg=>Alp (h1.a0 g hg),fun g hg=>Alp (h1.a1 g hg)⟩
 have h2:=Apz hN hs.1;have h3:=Apz hN hs.2;have h4:=Axn hN h.pt;have h5:=Axn hN h.fr;dsimp only at h4 h5;unfold inK;dsimp only;rw[h1,h2,h3,h4,h5]
theorem A21 {C:Ce} (h:Ab9 C):C.K.K=C.K:=by unfold Ce.K;dsimp only;rw[Ap4 hN h.is,Ap4 hN h.su,A2G hN h.x]
theorem AzI {n:Int} (I:AgN N n) {t:Nat} (ht:t<256) (h31:t % 32≠31):LC N (t:Int) n=some (LX t n):=by have w:=TS N t [inB n] ht h31 hN (by simp) (by rw[Kw];have:=I.len;omega);rw[Kw]at w;unfold LC;rw[I.Anv,Jy,w,Jy];rfl
omit hN in
theorem AsR {k:Int} {i r:Bs} (h:OkK k i r):RH N (k,i,r)=some 0:=by
 obtain⟨⟨a,b⟩,c,d⟩:=h;unfold RH;try simp -zeta only[Ap]
 simp (disch:=first | assumption | omega) only[JO,c,d,Ej];try rfl
theorem A2I {k:Int} {i r:Bs} (h:OkK k i r):VY N (k,i,r)=some (Ajj k i r,0):=by
 have h1:=Acu hN h;have h2:=Acv h;have hi:=h.i;have hr:=h.r;unfold rF at h1;have w1:JG N 3 [([0]:Bs)++keyS k i r]=_:=TS N 3 [0::keyS k i r] (by omega) (by omega) hN (by simp) (by rw[Kw,List.length_cons];omega);rw[Kw]at w1;have w2:JG N 48 [Wl,Sp.elem 3 (0::keyS k i r)]=_:=TS N 48 [Wl,Sp.elem 3 (0::keyS k i r)] (by omega) (by omega) hN (by simp) (by rw[wL];omega);rw[wL]at w2
 have e:y7 N (k,i,r)=some (keyS k i r):=by
  unfold y7 AjC;try simp -zeta only[Ap]
  rw[(AnS h).1,L8,Jy,Dp (by simp;omega),L8,Dp (by simp;omega),L8];rfl
 unfold VY;try simp -zeta only[Ap]
 rw[AsR h,Jy,show((0:Int) != 0)=false from rfl,cond_false,(Vk hN).YR,Jy,e,Jy,Dp (by omega),L8,w1,Jy,w2,Jy];rfl
theorem A2C {x:Info} (h:OkI x):Vh N 163 x=some (exO x,0):=by
 unfold Vh exO;try simp only[clR]
 rw[A1B hN h,Jy];cases B:(exI x).isEmpty with
 | true=>rw[Fe.1 B];rfl
 | false =>
  have h0:=AkS B;have:=Eo.2 h0;have hl:=Am5 hN h h0;have:=Sp.JL 48 (xsC (exI x));have w:Lm N 163 [xsB (exI x)]=_:=AcX N 163 [xsB (exI x)] (by omega) (by omega) hN (by simp) (by rw[Kw];unfold xsB;omega);rw[Kw]at w;have e:Y2 N 163 (exI x)=some (Sp.elem 163 (xsB (exI x)),0):=by unfold Y2;rw[AvB (Akz hN h h0) hN,Jy];dsimp only;rw[show((0:Int) != 0)=false from rfl,cond_false,w,Jy]
  simp (disch:=first | assumption | omega) only[JO,e,Ej];try rfl
variable {C:Ce} (h:Ab9 C)
include h
theorem AxX (raw tbs sig:Bs):VX N (C.c raw tbs sig)=some 0:=by
 have h1:=V5 hN h.is;have h2:=V5 hN h.su;have h3:RH N (C.kh,C.ki,C.kr)=some 0:=AsR ⟨h.kh,h.ki,h.kr⟩;have h4:QJ N C.x=some 0:=Atd hN h.x;obtain⟨s1,s2⟩:=h.se;have p1:=Eo.2 h.ne;have T1:=(Sm hN h.nb).p0;have T2:=(Sm hN h.nb).p1;have T3:=(Sm hN h.nf).p0;have T4:=(Sm hN h.nf).p1;have tt:=h.tt;have hc:=h.cs;obtain⟨se,is,su,nb,nf,kh,ki,kr,B,D,x⟩:=C;dsimp only at *
 unfold VX;try simp only[clR]
 have e:(D&&((su.length:Int)==(0:Int)))=false:=by
  cases D with
  | false=>rfl
  | true=>have:=Eo.2 (hc rfl);rw[GK];exact Uc (by omega)
 simp (disch:=first | assumption | omega) only[JO,h1,h2,h3,e,Ej];exact(congrArg (fun o=>Jt o _) h4).trans rfl
theorem A1w (raw tbs sig:Bs):PV N (C.c raw tbs sig)=some (XN C,0):=by
 have hl:=Aak hN h;have I2:=jP hN (n:=2) (by omega) (by omega);have Is:=jP hN (n:=C.se) (by have:=h.se;omega) h.se.2;have w160:JG N 160 [LX 2 2]=_:=TS N 160 [LX 2 2] (by omega) (by omega) hN (by simp) (by rw[Kw];have:=AgY hN I2 2;omega);rw[Kw]at w160;have w48:JG N 48 [VL C.nb,VL C.nf]=some (Sp.elem 48 (uN C)):=by have hv:=Aht hN h;unfold uN at hv;have w:JG N 48 [VL C.nb,VL C.nf]=_:=TS N 48 [VL C.nb,VL C.nf] (by omega) (by omega) hN (by simp) (by rw[wL];omega);rwa [wL]at w
 have wS:Lm N 48 (Amg C)=some (XN C,0):=by have w:Lm N 48 (Amg C)=_:=AcX N 48 (Amg C) (by omega) (by omega) hN (by show 8<=_;omega) (by rw[ApT];omega);rwa [ApT]at w
 have n2:LC N 2 2=_:=AzI hN I2 (t:=2) (by omega) (by omega);have ns:LC N 2 C.se=_:=AzI hN Is (t:=2) (by omega) (by omega);unfold Amg at wS;unfold PV;try simp -zeta only[Ap]
 rw[AxX hN h,Jy,show((0:Int) != 0)=false from rfl,cond_false];(try unfold Ce.c);(try dsimp only);rw[ZR hN h.is,Jy,ZR hN h.su,Jy,(Sm hN h.nb).YR,Jy,(Sm hN h.nf).YR,Jy,A2I hN ⟨h.kh,h.ki,h.kr⟩,Jy];refine(congrArg (fun o=>Jt o _) (A2C hN h.x)).trans ?_;rw[Jy];dsimp only;rw[show((0:Int) != 0)=false from rfl,cond_false,n2,Jy,w160,Jy,ns,Jy,(Vk hN).YR,Jy,w48,Jy,wS,Jy]
end
def Axs {N:Nat} {L:List Int} {p a b t:Bs} {X Y Z:Crt} {d dd:List Int×Int} {e:Int} (hp:p.length<=300)
 (h0:dV N L=some d) (h1:Rl N d=some (X,dd)) (h2:PV N X=some (t,e)) (h3:P8 N t []=some (a,0)) (h4:P8 N t p=some (b,0))
 (h5:Oh N a=some (Y,0)) (h6:Oh N b=some (Z,0)) (h7:Qj N Y Z=some true) (h8:Y.2.1=Z.2.1) (h9:Y.2.2.2.2.2.2.2.2.2.2.2.2.2.2.2.2.2.2.2.2.2.2.2.2.2.2.2.2.2=[]) (h10:Z.2.2.2.2.2.2.2.2.2.2.2.2.2.2.2.2.2.2.2.2.2.2.2.2.2.2.2.2.2=p) (haw:Rk N=some true):OJ N L p=some true:=by
 unfold OJ;try simp -zeta only[Ap]
 rw[DN (by omega),cond_false,h0,Jy,h1,Jy];dsimp only;rw[h2,Jy];dsimp only;rw[h3,Jy,h4,Jy];dsimp only;rw[h5,Jy,h6,Jy,haw,Jy];dsimp only;rw[h7,h8,h9,h10];simp only[Option.getD_some,Option.isSome_some,Em,cond_true,Jy,oU,L8,EO,F8,EK,FM]
def AyU {N:Nat} (hN:1048700<N) (haw:Rk N=some true) (L:List Int) (p:Bs) (hL:L.length<=9223372036854775807):OJ N L p=some true:=by
 by_cases hp:p.length<=300
 .obtain⟨⟨X,d⟩,e1,hX,_⟩:=AvX N hN hL (d:=(L,0)) ⟨0,rfl,Es _⟩;obtain⟨C,h,hC⟩:=A26 hX;dsimp only at hC;generalize X.1=r0 at hC;generalize X.2.1=r1 at hC;generalize X.2.2.2.2.2.2.2.2.2.2.2.2.2.2.2.2.2.2.2.2.2.2.2.2.2.2.2.2.2=r2 at hC;subst hC;have hM:1048578<N:=by omega
  have e7:=ApD hM (AvD hM h) (sgB C []) (XN C) [] (sgB C p) (XN C) p;rw[A21 hM h]at e7;have e2:=A1w hM h r0 r1 r2;have e3:=AeL hM h (sig:=[]) (Es _);have e4:=AeL hM h (sig:=p) (by omega);have e5:=Aal hM h (sig:=[]) (Es _);have e6:=Aal hM h (sig:=p) (by omega);generalize sgB C []=u at *
  generalize sgB C p=v at *
  generalize XN C=t at *
  exact Axs (d:=(L,0)) hp rfl e1 e2 e3 e4 e5 e6 e7 (Gu (b:=t) rfl rfl) rfl rfl haw
 .unfold OJ;try simp -zeta only[Ap]
  rw[Dp (by omega),cond_true,haw];rfl
def Avq (L:List Int) (p:Bs) (hL:L.length<=9223372036854775807):OJ 2097152 L p=some true:=by have h:=AxJ;unfold N0 at h;exact AyU (by decide) h L p hL
end Go.Proofs.YtfgdgdnlglejbaaGreatDoor.Pl
namespace Go.Proofs.YtfgdgdnlglejbaaGreatDoor.Vm
open Go.ChangeShapes Go.WideShapes
def nobody:Own:=fun _ _=>none
def AyE:A->Prop
 | .int k n=>k.min<=n/\n<=k.max
 | .str s=>s.length<=9223372036854775807
 | _=>True
def okN:Nat->A->Prop
 | 0,_=>False
 | n+1,.sl l=>l.xs.length<=9223372036854775807/\ ∀ c∈l.es,∀ a∈c,okN n a
 | _+1,a=>AyE a
structure Opened (n:Nat) (w:World) (ks:List CK) (cs:List Value) (aa:List A):Prop where
 lc:cs.length=ks.length
 la:aa.length=ks.length
 rel: ∀ j,j<ks.length->JA nobody w (cs.getD j undef) (aa.getD j .undef)
 made:((tyl ks).mk aa).1=true
 ok: ∀ a∈aa,okN n a
def A1P: ∀(n:Nat) (a:A),okN n a->okN (n+1) a:=by
 intro n
 induction n with
 | zero=>intro a h;exact h.elim
 | succ n ih =>intro a h;cases a<;>first | exact h | exact⟨h.1,fun c hc z hz=>ih z (h.2 c hc z hz)⟩
def Opened.up {n:Nat} {w:World} {ks:List CK} {cs:List Value} {aa:List A} (h:Opened n w ks cs aa):Opened (n+1) w ks cs aa:=⟨h.lc,h.la,h.rel,h.made,fun a ha=>A1P n a (h.ok a ha)⟩
def AwO: ∀(a:List CK) {b:List CK} {x y:List A},((tyl a).mk x).1=true->((tyl b).mk y).1=true->((tyl (a++b)).mk (x++y)).1=true:=by
 intro a
 induction a with
 | nil =>
  intro b x y hx hy;cases x with
  | nil=>exact hy
  | cons _ _=>cases hx
 | cons k a ih =>
  intro b x y hx hy;cases k with
  | bool =>
   cases x with
   | nil=>cases hx
   | cons c x=>cases c<;>first | exact ih (x:=x) hx hy | cases hx
  | int k =>
   cases x with
   | nil=>cases hx
   | cons c x =>
    cases c<;>first
     | (simp only[tyl,Ty.mk,Dw]at hx
        simp only[List.cons_append,tyl,Ty.mk,Dw];exact⟨hx.1,ih hx.2 hy⟩)
     | cases hx
  | str =>
   cases x with
   | nil=>cases hx
   | cons c x=>cases c<;>first | exact ih (x:=x) hx hy | cases hx
  | sl e t =>
   cases x with
   | nil=>cases hx
   | cons c x =>
    cases c with
    | sl l =>
     simp only[tyl,Ty.mk]at hx;simp only[List.cons_append,tyl,Ty.mk];cases hc:l.cast t with
     | none=>rw[hc]at hx;cases hx
     | some xs=>rw[hc]at hx;exact ih (x:=x) hx hy
    | _=>cases hx
  | sln e t =>
   cases x with
   | nil=>cases hx
   | cons c x =>
    cases c with
    | sl l =>
     simp only[tyl,Ty.mk]at hx;simp only[List.cons_append,tyl,Ty.mk];cases hc:l.cast t with
     | none=>rw[hc]at hx;cases hx
     | some xs=>rw[hc]at hx;exact ih (x:=x) hx hy
    | _=>cases hx
  | ptr =>
   cases x with
   | nil=>cases hx
   | cons c x=>cases c<;>first | exact ih (x:=x) hx hy | cases hx
  | fn =>
   cases x with
   | nil=>cases hx
   | cons c x=>cases c<;>first | exact ih (x:=x) hx hy | cases hx
  | mp kt vt =>
   cases x with
   | nil=>cases hx
   | cons c x =>
    cases c with
    | ump l =>
     simp only[tyl,Ty.mk]at hx;simp only[List.cons_append,tyl,Ty.mk];cases hc:l.cast kt vt with
     | none=>rw[hc]at hx;cases hx
     | some xs=>rw[hc]at hx;exact ih (x:=x) hx hy
    | _=>cases hx
  | bx t =>
   cases x with
   | nil=>cases hx
   | cons c x =>
    cases c with
    | sl l =>
     simp only[tyl,Ty.mk]at hx;simp only[List.cons_append,tyl,Ty.mk];cases hc:l.cast t with
     | none=>rw[hc]at hx;cases hx
     | some xs=>rw[hc]at hx;exact ih (x:=x) hx hy
    | _=>cases hx
  | oth =>
   cases x with
   | nil=>cases hx
   | cons c x=>cases c<;>first | exact ih (x:=x) hx hy | cases hx
theorem Opened.nil {n:Nat} {w:World}:Opened n w [] [] []:=⟨rfl,rfl,fun j hj=>absurd hj (H5 j),rfl,fun a ha=>(by cases ha)⟩
def Opened.append {n:Nat} {w:World} {a b:List CK} {x y:List Value} {p q:List A} (h1:Opened n w a x p) (h2:Opened n w b y q):Opened n w (a++b) (x++y) (p++q):=by
 refine⟨by simp [h1.lc,h2.lc],by simp [h1.la,h2.la],fun j hj=> ?_,AwO a h1.made h2.made,fun z hz=> ?_⟩
 .rw[Dv]at hj;by_cases h:j<a.length
  .have:=h1.rel j h;rw[Dn,Ep (by rw[h1.lc];exact h),<- Dn,Dn (l:=p++q),Ep (by rw[h1.la];exact h),<- Dn];exact this
  .have:=h2.rel (j - a.length) (by omega);rw[Dn,ED (by rw[h1.lc];omega),<- Dn,Dn (l:=p++q),ED (by rw[h1.la];omega),<- Dn,h1.lc,h1.la];exact this
 .rcases DV.1 hz with hz | hz
  .exact h1.ok z hz
  .exact h2.ok z hz
def Opened.one {n:Nat} {w:World} {k:CK} {v:Value} {a:A} (hr:JA nobody w v a) (hm:((tyl [k]).mk [a]).1=true) (ho:okN n a):Opened n w [k] [v] [a] :=
 ⟨rfl,rfl,fun j hj=>by
   have:j=0:=by simp at hj;omega
   subst this;exact hr,hm,fun z hz=>by rw[Ei.1 hz];exact ho⟩
def fG (P:Program) (n t:Nat):Nat:=match OU P n t with | some cs=>cs.length | none=>0
def Aln (P:Program) (n:Nat):List Field->Nat->Bool
 | [],_=>true
 | f::r,o=>Nat.beq f.offset o&&Nat.beq (P.cellsOf f.type) (fG P n f.type)&&Aln P n r (o+fG P n f.type)
def Abg (P:Program):Nat->Nat->Bool
 | 0,_=>false
 | n+1,t=>match P.underlying t with
  | some .bool=>true
  | some (.int _)=>true
  | some .string=>true
  | some (.slice e)=>Abg P n e&&Nat.beq (P.cellsOf e) (fG P n e)&&Nat.blt 0 (fG P n e)&&(match OU P n e with | some cs=>cs.all CK.plain | none=>false)
  | some (.struct fs)=>Nat.beq (P.cellsOf t) (fG P (n+1) t)&&Aln P n fs.toList 0&&fs.toList.all (fun f=>Abg P n f.type)
  | _=>false
section
variable {H:Type} {enc:TypeId×Value->H} {P:Program} {w:World} {base:Nat} {spare:Nat->Bool} {held:Bool}
theorem AeI {a:Addr} {n:Nat} {cs:List Value} (h:w.cells? base a n=some cs):cs.length=n/\ ∀ j,j<n->w.cell? (a.add j)=some (cs.getD j undef):=by
 unfold World.cells? at h;split at h
 .have key: ∀(l:List Nat) (cs:List Value),l.mapM (fun i=>w.cell? (a.add i))=some cs->cs.length=l.length/\ ∀ j (hj:j<l.length),w.cell? (a.add l[j])=some (cs.getD j undef):=by
   intro l
   induction l with
   | nil=>grind
   | cons i l ih =>
    intro cs h;rw[Ia]at h;cases h1:w.cell? (a.add i)with
    | none=>rw[h1]at h;cases h
    | some v =>
     rw[h1]at h;cases h2:l.mapM (fun i=>w.cell? (a.add i))with
     | none=>rw[h2]at h;cases h
     | some r =>
      rw[h2]at h;injection h with h;subst h;obtain⟨k1,k2⟩:=ih r h2;refine⟨by simp [k1],fun j hj=> ?_⟩;cases j with
      | zero=>exact h1
      | succ j=>grind
  all_goals grind
 .cases h
theorem Azg {l:List Value} {o a b:Nat}:(l.drop o).take (a+b)=(l.drop o).take a++(l.drop (o+a)).take b:=by rw[List.take_add,Gz]
theorem Adb (e:Nat) (t:Ty) (xs:List t.Val):((tyl [.sl e t]).mk [.sl ⟨t,xs⟩]).1=true:=by simp only[tyl,Ty.mk];rw[Sl.iC];rfl
theorem AsE (hspare: ∀ b,spare b=true): ∀(n:Nat) (t:TypeId) (ks:List CK) (fuel:Nat) (cs:List Value) (x:DataW H×List MemPlace),OU P n t=some ks->Abg P n t=true->DataW.trod enc P w base spare held fuel t cs=some x ->
 ∃ aa,Opened n w ks cs aa:=by
 intro n
 induction n with
 | zero=>intro t ks fuel cs x h;cases h
 | succ n ih =>
  intro t ks fuel cs x hck hok h;unfold OU at hck;unfold Abg at hok;cases hu:P.underlying t with
  | none=>rw[hu]at hck;cases hck
  | some d =>
   rw[hu]at hck hok;cases d with
   | bool =>injection hck with hck;subst hck;obtain⟨b,rfl,_⟩:=DataW.trod_bool hu h;exact⟨[.bool b],Opened.one (.bool b) rfl trivial⟩
   | int k =>
    injection hck with hck;subst hck;obtain⟨v,rfl,_,hw⟩:=DataW.trod_int hu h;have hk:AyE (.int k v):=by unfold Lit.wf at hw;rw[Dw,DK,DK]at hw;exact hw
    exact⟨[.int k v],Opened.one (.int k v) (by cases k<;>rfl) hk⟩
   | string =>
    injection hck with hck;subst hck;obtain⟨v,rfl,_,hw⟩:=DataW.trod_string hu h
    have hk:AyE (.str v.data.toList):=by
     show v.data.toList.length<=_;have e:v.data.toList.length=v.size:=by rw[Array.length_toList];rfl
     have:maxLen=9223372036854775807:=rfl;omega
    exact⟨[.str v.data.toList],Opened.one (.str v) rfl hk⟩
   | slice e =>
    dsimp only at hck hok;simp only[Dw]at hok;obtain⟨⟨⟨hoe,hce⟩,hc0⟩,hpl⟩:=hok;cases hke:OU P n e with
    | none=>rw[hke]at hpl;cases hpl
    | some ke =>
     rw[hke]at hck hpl;dsimp only at hck hpl;rw[hpl]at hck;injection hck with hck;subst hck;have hlen:P.cellsOf e=ke.length:=by have:=Dx hce;unfold fG at this;rw[hke]at this;exact this
     rcases DataW.trod_slice hu h with ⟨rfl,_⟩ | ⟨a,len,cap,elems,rest,m,_,rfl,_,hb,hl,hm,hel,hels,hsp,_⟩
     .exact⟨[.sl ⟨tyl ke,[]⟩],Opened.one (.nil _) (Adb _ _ _) ⟨Es _,fun c hc=>(by cases hc)⟩⟩
     .by_cases hcap:cap=0
      .have hlen0:len=0:=by omega
       subst hcap;subst hlen0;exact⟨[.sl ⟨tyl ke,[]⟩],Opened.one (.sl0 a _) (Adb _ _ _) ⟨Es _,fun c hc=>(by cases hc)⟩⟩
      have hk0:0<P.cellsOf e:=by have h2:=Dx hce;rw[h2];simpa using hc0
      have hread: ∃ u,w.cell? a=some u:=by
       by_cases h0:0<len
       .have he:=hels 0 h0;rw[D9 (by omega:0<elems.length),G9]at he;obtain⟨q,hq,_⟩:=he;obtain⟨_,k2⟩:=AeI hq;have:=k2 0 hk0;rw[Ht]at this;exact⟨_,this⟩
       .have hz:len=0:=by omega
        obtain⟨hr1,hr2⟩:=hsp (hspare _);have he:=hr2 0 (by omega);rw[D9 (by omega:0<rest.length),G9]at he;obtain⟨q,hq,_⟩:=he;obtain⟨_,k2⟩:=AeI hq;have:=k2 0 hk0;rw[hz,Ht]at this;exact⟨_,this⟩
      have hspot:a.spot=none:=by
       obtain⟨u,hu⟩:=hread;unfold World.cell? at hu;split at hu
       .cases hs:a.spot with
        | none=>rfl
        | some z=>rw[hs]at hu;cases hu
       .cases hu
      have ha:a=at' a.block a.off:=by obtain⟨b,o,sp⟩:=a;dsimp only at hspot;rw[hspot]
      have each: ∀ i,∃(q:List Value) (aa:List A),i<len->(∀ j,j<ke.length->w.cell? (at' a.block (a.off+(i*ke.length+j)))=some (q.getD j undef))/\Opened n w ke q aa:=by
       intro i;by_cases hi:i<len
       .have he:=hels i hi;have hei:elems[i]? =some (elems[i]'(by omega)):=D9 (by omega);rw[hei,G9]at he;obtain⟨q,hq,hq2⟩:=he;obtain⟨k1,k2⟩:=AeI hq;rw[hlen]at k1 k2;obtain⟨aa,h1⟩:=ih e ke m q _ hke hoe hq2;refine⟨q,aa,fun _=>⟨fun j hj=> ?_,h1⟩⟩;have:=k2 j hj;rw[ha,SY,SY]at this;rw[<- this];congr 2;omega
       .exact⟨[],[],fun h=>absurd h hi⟩
      obtain⟨q,hq⟩:=G7 each;obtain⟨aa,haa⟩:=G7 hq;let l:Sl:=⟨tyl ke,(List.range len).map fun i=>((tyl ke).mk (aa i)).2⟩
      have hes:l.es=(List.range len).map aa:=by show((List.range len).map fun i=>((tyl ke).mk (aa i)).2).map (tyl ke).cells=_;rw[EC];refine Ea fun i hi=> ?_;exact Ty.UT _ _ (haa i (ES.1 hi)).2.made
      have hesl:l.es.length=len:=by rw[hes,Dz,FK]
      have hsz:l.sz=ke.length:=XD ke;have hget: ∀ i,i<len->l.es.getD i []=aa i:=fun i hi=>by rw[hes,Dn,Eu,Iz hi];rfl
      have hrel:JA nobody w (.slice (some a) len cap) (.sl l):=by
       rw[ha,<- hesl];refine JA.sl (fun i j=>(q i).getD j undef) (by rw[hesl];exact hl) (fun i j hi hj=> ?_) (fun i j hi hj=> ?_)
       .rw[hsz]at hj ⊢;exact⟨rfl,(haa i (by rw[<- hesl];exact hi)).1 j hj⟩
       .rw[hsz]at hj;have hi':i<len:=by rw[<- hesl];exact hi
        rw[hget i hi'];exact(haa i hi').2.rel j hj
      refine⟨[.sl l],Opened.one hrel (Adb _ _ _) ⟨?_,fun c hc z hz=> ?_⟩⟩
      .show((List.range len).map _).length<=_;rw[Dz,FK];have:maxLen=9223372036854775807:=rfl;omega
      .rw[hes]at hc;obtain⟨i,hi,rfl⟩:=DJ.1 hc;exact(haa i (ES.1 hi)).2.ok z hz
   | struct fs =>
    dsimp only at hck hok;simp only[Dw]at hok;obtain⟨⟨hcl,hoff⟩,hall⟩:=hok;obtain⟨xs,m,_,_,hl,hxl,hxs⟩:=DataW.trod_struct hu h
    have fields: ∀(l:List Field) (o:Nat) (ks:List CK),l.foldr (fun f acc=>match OU P n f.type,acc with | some a,some b=>some (a++b) | _,_=>none) (some [])=some ks->Aln P n l o=true->(∀ f∈l,Abg P n f.type=true) ->
     (∀ f∈l,∃ y,DataW.trod enc P w base spare held m f.type ((cs.drop f.offset).take (P.cellsOf f.type))=some y)-> ∃ aa,Opened n w ks ((cs.drop o).take ks.length) aa:=by
     intro l
     induction l with
     | nil =>intro o ks hk _ _ _;injection hk with hk;subst hk;exact⟨[],Opened.nil⟩
     | cons f r ihr =>
      intro o ks hk ho hf hy;rw[List.foldr_cons]at hk;cases ha:OU P n f.type with
      | none=>rw[ha]at hk;cases hk
      | some a =>
       rw[ha]at hk;cases hb:r.foldr (fun f acc=>match OU P n f.type,acc with | some a,some b=>some (a++b) | _,_=>none) (some [])with
       | none=>rw[hb]at hk;cases hk
       | some b =>
        rw[hb]at hk;injection hk with hk;subst hk;have hal:fG P n f.type=a.length:=by unfold fG;rw[ha]
        unfold Aln at ho;simp only[Dw]at ho;obtain⟨⟨h1,h2⟩,h3⟩:=ho;have h1:=Dx h1;have h2:=Dx h2;rw[hal]at h2 h3;obtain⟨y,hy1⟩:=hy f Dy;rw[h1,h2]at hy1;obtain⟨pa,p1⟩:=ih f.type a m _ y ha (hf f Dy) hy1;obtain⟨pb,q1⟩:=ihr (o+a.length) b hb h3 (fun g hg=>hf g (D5 _ hg)) (fun g hg=>hy g (D5 _ hg));refine⟨pa++pb,?_⟩;rw[Dv,Azg];exact p1.append q1
    obtain⟨aa,h1⟩:=fields fs.toList 0 ks hck hoff (fun f hf=>D7.1 hall f hf) (fun f hf=>by
     obtain⟨i,hi⟩:=List.getElem?_of_mem hf;have hi':fs[i]? =some f:=by rw[<- Eb];exact hi
     have:=hxs i f hi';have hlt:i<xs.length:=by rw[hxl];exact(DX.1 hi').1
     rw[D9 hlt]at this;exact⟨_,this⟩)
    have hcs:(cs.drop 0).take ks.length=cs:=by
     rw[Ff];refine EW ?_;have h3:=Dx hcl;have h4:fG P (n+1) t=ks.length:=by unfold fG OU;rw[hu];dsimp only;rw[hck]
     omega
    rw[hcs]at h1;exact⟨aa,h1.up⟩
   | _=>cases hok
theorem AtX {r:Reach} {b0:Nat} {u:TypeId} {cs:Array Value} (h:Cell.okWide P w r b0 u (.agg cs)):False:=by
 have h':Cell.ok P w r b0 u (.agg cs):=by unfold Cell.okWide at h;all_goals grind
 unfold Cell.ok at h';all_goals grind
def A1p (P:Program) (t:TypeId):Bool:=match P.underlying t with
 | some (.struct _)=>true
 | some (.array _ _)=>true
 | _=>false
theorem open_cell {r:Reach} {b0 n:Nat} {t:TypeId} {v:Value} {d:DataW H} {ps:List MemPlace} {k:CK} (hck:OU P n t=some [k]) (hspare: ∀ b,spare b=true) (hok:Abg P n t=true) (ha:A1p P t=false) (hval:Value.okWide P w r b0 t v) (hd:DataW.Trod enc P w base spare held t v d ps) :
 ∃ a,JA nobody w v a/\((tyl [k]).mk [a]).1=true/\okN n a:=by
 have hc:Cell.okWide P w r b0 t v:=by unfold Value.okWide at hval;all_goals grind[A1p]
 have hcells:v.cells.toList=[v]:=by
  cases v with
  | agg cs=>exact(AtX hc).elim
  | _=>rfl
 obtain⟨fuel,h⟩:=hd;rw[hcells]at h;obtain⟨aa,h1⟩:=AsE hspare n t [k] fuel [v] _ hck hok h;obtain⟨a,rfl⟩: ∃ a,aa=[a]:=F7.1 h1.la;exact⟨a,h1.rel 0 (by show 0<1;omega),h1.made,h1.ok a Dy⟩
theorem Opened.ir {n:Nat} {ks:List CK} {cs:Array Value} {aa:List A} (h:Opened n w ks cs.toList aa) (id:Nat):IR nobody w id (.agg cs) (.agg aa):=by
 refine⟨cs,rfl,?_,fun j hj=>JA.ic ?_⟩
 .rw[<- Array.length_toList,h.lc,h.la]
 .have:=h.rel j (by rw[<- h.la];exact hj);all_goals simp_all[CK,IR,nobody]
theorem JA.ir {id:Nat} {v:Value} {a:A} (h:JA nobody w v a):IR nobody w id v a:=by have:=h.ic (id:=id);cases h<;>exact this
end
open Go Go.Lib
abbrev tabs:List (String×DataW Unit):=[("math/bits.deBruijn32tab",Rows.laid_math_bits_deBruijn32tab),("math/bits.deBruijn64tab",Rows.laid_math_bits_deBruijn64tab),("internal/strconv.uint64pow10",Rows.laid_internal_strconv_uint64pow10),("unicode/utf8.acceptRanges",Rows.laid_unicode_utf8_acceptRanges),("certpath/date.lengths",Rows.laid_certpath_date_lengths),("unicode/utf8.first",Rows.laid_unicode_utf8_first)]
def A3h:DataW Unit->Value
 | .lit (.int k n)=>.int k n
 | _=>undef
def Anu:DataW Unit->List Value
 | .agg l=>l.map A3h
 | _=>[]
def A3k:DataW Unit->List Value
 | .agg l=>l.flatMap Anu
 | _=>[]
noncomputable def laidWorld (os:Os):World :=
 let w0:=World.holding Tryz.prog os ⟨#[],#[],[]⟩
 {w0 with heap:=(((((w0.heap.modify 2 fun
  | .cells _ t frozen=>.cells (Anu Rows.laid_internal_strconv_uint64pow10).toArray t frozen
  | o=>o).modify 3 fun
  | .cells _ t frozen=>.cells (Anu Rows.laid_unicode_utf8_first).toArray t frozen
  | o=>o).modify 4 fun
  | .cells _ t frozen=>.cells (A3k Rows.laid_unicode_utf8_acceptRanges).toArray t frozen
  | o=>o).modify 5 fun
  | .cells _ t frozen=>.cells (Anu Rows.laid_math_bits_deBruijn32tab).toArray t frozen
  | o=>o).modify 0 fun
  | .cells _ t frozen=>.cells (Anu Rows.laid_certpath_date_lengths).toArray t frozen
  | o=>o).modify 6 fun
  | .cells _ t frozen=>.cells (Anu Rows.laid_math_bits_deBruijn64tab).toArray t frozen
  | o=>o}
def laid_met (os:Os) (args:Array Value):laidMet Tryz.prog tabs ((laidWorld os).forCall (fun _ _=>0) ⟨#[],args,[]⟩).memory :=
 laidMet_of_run' 8 (by kernel_rfl) (by kernel_rfl)
set_option maxRecDepth 1000000 in
def ApK {W:World} (h:laidMet Tryz.prog tabs W) {nm:String} {D:DataW Unit} (hm:(nm,D)∈tabs) {g tA tE n:Nat} {k:IntKind} {f:Nat->Int} (hg0:Tryz.prog.globalNamed nm=some g) (ht0:(Tryz.prog.globals[g]?).map (·.type)=some tA) (hu:Tryz.prog.underlying tA=some (.array n tE)) (hu2:Tryz.prog.underlying tE=some (.int k)) (hc:Tryz.prog.cellsOf tE=1)
 (hds:D= .agg ((List.range n).map fun j=>.lit (.int k (f j)))) (j:Nat) (hj:j<n):W.cell? ⟨g,j,none⟩=some (.int k (f j)):=by
 obtain⟨g',t,cs,fuel,p,hg,ht,hvar,hd⟩:=laidMet.reads h (n:=nm) (d:=D) hm;obtain rfl:=FU (hg0.symm.trans hg);obtain rfl:=FU (ht0.symm.trans ht);rw[hds]at hd;obtain⟨fuel',d,q,h1,h2⟩:=array_elem hu hd j hj;rw[Eu,Iz hj]at h1;have h1:=FU h1;subst h1;rw[hc,EZ]at h2;obtain⟨m,h3,h4,_⟩:=DataW.trod_int hu2 h2;have hn:f j=m:=by have:=congrArg Prod.fst h4;injection this with this;injection this with _ this
 rw[World.var?_cell hg hvar j]
 have h5:(cs.toList.drop j)[0]? =some (.int k m):=by
  have:((cs.toList.drop j).take 1)[0]? =some (.int k m):=by rw[h3];rfl
  rwa [Gy (by omega)]at this
 rw[Fa,Nat.add_zero,Eb]at h5;rw[h5,hn]
set_option maxRecDepth 1000000 in
def AyI {W:World} (h:laidMet Tryz.prog tabs W) (j:Nat) (hj:j<20):W.cell? ⟨2,j,none⟩=some (.int .u64 ((10 ^ j:Nat):Int)):=by
 have hds:(Rows.laid_internal_strconv_uint64pow10:DataW Unit)= .agg ((List.range 20).map fun j=>.lit (.int .u64 ((10 ^ j:Nat):Int))):=by kernel_rfl
 have hm:(("internal/strconv.uint64pow10",Rows.laid_internal_strconv_uint64pow10):String×DataW Unit)∈tabs:=D5 _ (D5 _ Dy);generalize (Rows.laid_internal_strconv_uint64pow10:DataW Unit)=D at hds hm;exact ApK h (nm:= "internal/strconv.uint64pow10") (D:=D) hm (g:=2) (tA:=413) (tE:=270) (n:=20) (k:=.u64) (f:=fun j=>((10 ^ j:Nat):Int)) (by kernel_rfl) (by kernel_rfl) (by kernel_rfl) (by kernel_rfl) (by kernel_rfl) hds j hj
set_option maxRecDepth 1000000 in
def Ay1 {W:World} (h:laidMet Tryz.prog tabs W) (j:Nat) (hj:j<12):W.cell? ⟨0,j,none⟩=some (.int .i64 (([31,28,31,30,31,30,31,31,30,31,30,31]:List Int).getD j 0)) :=
 ApK h (nm:= "certpath/date.lengths") (D:=Rows.laid_certpath_date_lengths) (D5 _ (D5 _ (D5 _ (D5 _ Dy)))) (g:=0) (tA:=320) (tE:=3) (n:=12) (k:=.i64) (f:=fun j=>([31,28,31,30,31,30,31,31,30,31,30,31]:List Int).getD j 0) (by kernel_rfl) (by kernel_rfl) (by kernel_rfl) (by kernel_rfl) (by kernel_rfl) (by kernel_rfl) j hj
def inv_of {W:World} (hs:W.ShapedOpen Tryz.prog) (hl:laidMet Tryz.prog tabs W):Inv nobody W:=by
 refine⟨fun g j p h=> ?_,fun g n h=> ?_⟩
 .unfold lM at h;split at h
  .injection h with h;subst h;obtain⟨m,hm⟩:=cell_of_shapedOpen_int (P:=Tryz.prog) (g:=1) (t:=3) (zero:= #[.int .i64 0]) (k:=.i64) hs (D6 (by kernel_rfl)) (by kernel_rfl) rfl (by kernel_rfl) (by kernel_rfl) (by kernel_rfl);exact⟨rfl,_,hm,m,rfl⟩
  .split at h
   .rename_i hj;injection h with h;subst h;exact⟨rfl,_,AyI hl _ hj,rfl⟩
   .cases h
  .unfold AgE at h;split at h
   .have h:(if j<12 then some (fun v=>v=Value.int .i64 (([31,28,31,30,31,30,31,31,30,31,30,31]:List Int).getD j 0))else none)=some p:=h;split at h
    .rename_i hj;injection h with h;subst h;exact⟨rfl,_,Ay1 hl _ hj,rfl⟩
    .cases h
   .cases h
 .unfold Azi at h;split at h
  .injection h with h;subst h;obtain⟨cs,h1,h2,_⟩:=hs.1 2 (Array.replicate 20 (.int .u64 0)) 413 (D6 (by kernel_rfl)) (by kernel_rfl);exact⟨cs,_,_,h1,h2⟩
  .cases h
section
variable {H:Type} {enc:TypeId×Value->H}
theorem Art {a:Assume} {C:Checked} {os:Os} {f:FuncId} {fn:Func} {s:ChangeSpec} {conds:List PathCond} {apart fresh handsOn again:Bool} {X:World->Array Value->Prop}
 (hX: ∀(w w':World) (args:Array Value),w.heap=w'.heap->X w args->X w' args)
 (own:ownKnob C.prog.godebug=none) (started:os.Started) (noInit:C.prog.inits.idxOf? f=none) (hfn:C.prog.funcs[f]? =some fn)
 (witness: ∃(w:World) (tape:Tape) (i:Input),w.os=os/\(w.forCall tape i).Shaped C.prog/\i.vars=[]/\Input.okWide C.prog (w.forCall tape i) .any w.heap.size f i /\
   ((s.pre enc C.prog fn conds apart (w.forCall tape i).memory i.args/\X (w.forCall tape i).memory i.args)/\sizedMet enc C.prog fn (OpenSpec.ofChange s) apart (w.forCall tape i).memory i.args)/\a.holds C.prog (lone (Frame.enter C.prog f i.args .normal) [] (w.forCall tape i)))
 (contract: ∀(W:World) (base:Nat) (args:Array Value) (ds gs:List (DataW H)) (before:List MemPlace),
   (∀(j:Nat) t v,fn.params[j]? =some t->args[j]? =some v->Value.okWide C.prog W .any base t v) ->
   DataW.Whole enc C.prog fn.params.toList s.vars apart W args.toList ds gs before->W.ShapedOpen C.prog->X W args ->
   Calls C.prog f args W fun e W'=> ∃ v,e= .returned v/\s.post enc C.prog fn apart fresh handsOn again W args v W') :
 ReturnsInHanded a C os f .any (fun w args=>(s.pre enc C.prog fn conds apart w args/\X w args)/\sizedMet enc C.prog fn (OpenSpec.ofChange s) apart w args) (s.post enc C.prog fn apart fresh handsOn again):=by
 refine returnsInHanded_of_calls own started noInit witness ?_;intro w tape i _ hsh _ hok hpre _;obtain⟨_,_,_,fn',hfn',_,_,_,_,hval⟩:=hok;obtain rfl:=FU (hfn'.symm.trans hfn);obtain⟨⟨⟨ds,gs,before,hw,_⟩,hx⟩,_⟩:=hpre;refine(contract (w.forCall tape i) w.heap.size i.args ds gs before hval (DataW.Whole.of_heap (w':=w.forCall tape i) (by rfl) hw) hsh (hX _ _ _ (by rfl) hx)).mono fun e W' ⟨v,he,hp⟩=> ?_;subst he;exact ChangeSpec.post_blind hp
end
end Go.Proofs.YtfgdgdnlglejbaaGreatDoor.Vm
